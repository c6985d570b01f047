/- The contracts of package rate: bands, needs. -/
import Derived.Test.YtfhjoojifjmnlaaRate
namespace Go.Proofs.Ytfhjoojifjmnlaa
open Go.RowKit
theorem BRight_calls (s m l : Nat) (w : World) : Calls Try.prog 19 #[.agg #[.int .u64 (s : Int), .int .u64 (m : Int), .int .u64 (l : Int)]] w fun e w' => e = .returned (.bool (decide ((1 ≤ s ∧ s ≤ 1000000) ∧ (1 ≤ l ∧ l ≤ 1000000) ∧ m ≤ s ∧ l ≤ m))) ∧ Hp w [] [] w' := by
  refine calls_G (args := [.agg #[.int .u64 (s : Int), .int .u64 (m : Int), .int .u64 (l : Int)]]) Try.func19 rfl Try.ntmps19 rfl ?_
  intro Q0 hRet hNor hPan
  have H := Hp.start w
  have H : Hp w [] [] w := H
  refine G.seqK fun K1 hK2 => ?_
  refine G.region ?_
  obtain ⟨p3, w4, r5, H6⟩ := H.box (P := Try.prog) 42 [.int .u64 (s : Int), .int .u64 (m : Int), .int .u64 (l : Int)] (.agg #[.int .u64 (s : Int), .int .u64 (m : Int), .int .u64 (l : Int)]) rfl
  have H6 : Hp w [] [.blk p3 [.int .u64 (s : Int), .int .u64 (m : Int), .int .u64 (l : Int)] 42] w4 := H6
  refine GL.sem (j := 1) (r5) [1] [(1, .pointer (some ⟨p3, 0, none⟩))] (by kernel_rfl) (by kernel_rfl) rfl ?_
  refine GL.run (j := 2) 1 [1] [(1, .pointer (some ⟨p3, 0, none⟩))] (by kernel_rfl) rfl ?_
  refine GL.k rfl hK2 (fun _ _ h => h) ?_
  refine G.seqK fun K7 hK8 => ?_
  refine G.region ?_
  refine GL.run (j := 1) 1 [1, 3] [(1, .pointer (some ⟨p3, 0, none⟩)), (3, .pointer (some ⟨p3, 0, none⟩))] (by kernel_rfl) rfl ?_
  refine GL.sem (j := 2) (H6.ld (o := 0) (ty := 22) (v := .int .u64 (s : Int)) 0 rfl (by kernel_rfl) rfl) [1, 4] [(1, .pointer (some ⟨p3, 0, none⟩)), (4, .int .u64 (s : Int))] (by kernel_rfl) (by kernel_rfl) rfl ?_
  refine GL.call (j := 3) (PThr_calls s w4) (by kernel_rfl) rfl (fun e_ w9 hR => ?_)
  obtain ⟨rfl, H11⟩ := hR
  have H10 : Hp w [] [.blk p3 [.int .u64 (s : Int), .int .u64 (m : Int), .int .u64 (l : Int)] 42] w9 := H6.callNil H11
  refine ⟨_, rfl, [1, 5], [(1, .pointer (some ⟨p3, 0, none⟩)), (5, .bool (decide (1 ≤ s ∧ s ≤ 1000000)))], by kernel_rfl, ?_⟩
  refine GL.run (j := 4) 1 [1, 6] [(1, .pointer (some ⟨p3, 0, none⟩)), (6, .bool (decide (1 ≤ s ∧ s ≤ 1000000)))] (by kernel_rfl) rfl ?_
  cases hb12 : (decide (1 ≤ s ∧ s ≤ 1000000))
  · skip
    have hb12f := of_decide_eq_false hb12
    refine GL.run (j := 23) 19 [2] [(2, .bool false)] (by kernel_rfl) rfl ?_
    refine GL.k rfl hK8 (fun _ _ h => h) ?_
    refine G.ret ?_
    intro F_ hF_ hM_
    refine hRet _ _ (bodyPost_1 rfl (RV.tmp rfl) ?_ F_ hF_ hM_)
    have e0 : (false : Bool) = decide (((1 ≤ s ∧ s ≤ 1000000) ∧ (1 ≤ l ∧ l ≤ 1000000) ∧ m ≤ s ∧ l ≤ m)) := by
      rw [Bool.eq_iff_iff]
      simp only [decide_eq_true_eq, Bool.true_eq_false, Bool.false_eq_true, true_iff, false_iff]
      omega
    rw [e0]
    exact ⟨rfl, H10.sub (List.nil_sublist _)⟩
  · skip
    have hb12f := of_decide_eq_true hb12
    refine GL.run (j := 5) 1 [1, 6, 7] [(1, .pointer (some ⟨p3, 0, none⟩)), (6, .bool true), (7, .pointer (some ⟨p3, 2, none⟩))] (by kernel_rfl) rfl ?_
    refine GL.sem (j := 6) (H10.ld (o := 2) (ty := 22) (v := .int .u64 (l : Int)) 0 rfl (by kernel_rfl) rfl) [1, 6, 8] [(1, .pointer (some ⟨p3, 0, none⟩)), (6, .bool true), (8, .int .u64 (l : Int))] (by kernel_rfl) (by kernel_rfl) rfl ?_
    refine GL.call (j := 7) (PThr_calls l w9) (by kernel_rfl) rfl (fun e_ w13 hR => ?_)
    obtain ⟨rfl, H15⟩ := hR
    have H14 : Hp w [] [.blk p3 [.int .u64 (s : Int), .int .u64 (m : Int), .int .u64 (l : Int)] 42] w13 := H10.callNil H15
    refine ⟨_, rfl, [1, 6, 9], [(1, .pointer (some ⟨p3, 0, none⟩)), (6, .bool true), (9, .bool (decide (1 ≤ l ∧ l ≤ 1000000)))], by kernel_rfl, ?_⟩
    refine GL.run (j := 9) 2 [1, 11] [(1, .pointer (some ⟨p3, 0, none⟩)), (11, .bool (decide (1 ≤ l ∧ l ≤ 1000000)))] (by kernel_rfl) rfl ?_
    cases hb16 : (decide (1 ≤ l ∧ l ≤ 1000000))
    · skip
      have hb16f := of_decide_eq_false hb16
      refine GL.run (j := 23) 14 [2] [(2, .bool false)] (by kernel_rfl) rfl ?_
      refine GL.k rfl hK8 (fun _ _ h => h) ?_
      refine G.ret ?_
      intro F_ hF_ hM_
      refine hRet _ _ (bodyPost_1 rfl (RV.tmp rfl) ?_ F_ hF_ hM_)
      have e0 : (false : Bool) = decide (((1 ≤ s ∧ s ≤ 1000000) ∧ (1 ≤ l ∧ l ≤ 1000000) ∧ m ≤ s ∧ l ≤ m)) := by
        rw [Bool.eq_iff_iff]
        simp only [decide_eq_true_eq, Bool.true_eq_false, Bool.false_eq_true, true_iff, false_iff]
        omega
      rw [e0]
      exact ⟨rfl, H14.sub (List.nil_sublist _)⟩
    · skip
      have hb16f := of_decide_eq_true hb16
      refine GL.run (j := 10) 1 [1, 11, 12] [(1, .pointer (some ⟨p3, 0, none⟩)), (11, .bool true), (12, .pointer (some ⟨p3, 0, none⟩))] (by kernel_rfl) rfl ?_
      refine GL.sem (j := 11) (H14.ld (o := 0) (ty := 22) (v := .int .u64 (s : Int)) 0 rfl (by kernel_rfl) rfl) [1, 11, 13] [(1, .pointer (some ⟨p3, 0, none⟩)), (11, .bool true), (13, .int .u64 (s : Int))] (by kernel_rfl) (by kernel_rfl) rfl ?_
      refine GL.run (j := 12) 1 [1, 11, 13, 14] [(1, .pointer (some ⟨p3, 0, none⟩)), (11, .bool true), (13, .int .u64 (s : Int)), (14, .pointer (some ⟨p3, 1, none⟩))] (by kernel_rfl) rfl ?_
      refine GL.sem (j := 13) (H14.ld (o := 1) (ty := 22) (v := .int .u64 (m : Int)) 0 rfl (by kernel_rfl) rfl) [1, 11, 13, 15] [(1, .pointer (some ⟨p3, 0, none⟩)), (11, .bool true), (13, .int .u64 (s : Int)), (15, .int .u64 (m : Int))] (by kernel_rfl) (by kernel_rfl) rfl ?_
      refine GL.run (j := 16) 3 [1, 18] [(1, .pointer (some ⟨p3, 0, none⟩)), (18, .bool (decide ((m : Int) ≤ (s : Int))))] (by kernel_rfl) rfl ?_
      cases hb17 : (decide ((m : Int) ≤ (s : Int)))
      · skip
        have hb17f := of_decide_eq_false hb17
        refine GL.run (j := 23) 7 [2] [(2, .bool false)] (by kernel_rfl) rfl ?_
        refine GL.k rfl hK8 (fun _ _ h => h) ?_
        refine G.ret ?_
        intro F_ hF_ hM_
        refine hRet _ _ (bodyPost_1 rfl (RV.tmp rfl) ?_ F_ hF_ hM_)
        have e0 : (false : Bool) = decide (((1 ≤ s ∧ s ≤ 1000000) ∧ (1 ≤ l ∧ l ≤ 1000000) ∧ m ≤ s ∧ l ≤ m)) := by
          rw [Bool.eq_iff_iff]
          simp only [decide_eq_true_eq, Bool.true_eq_false, Bool.false_eq_true, true_iff, false_iff]
          omega
        rw [e0]
        exact ⟨rfl, H14.sub (List.nil_sublist _)⟩
      · skip
        have hb17f := of_decide_eq_true hb17
        refine GL.run (j := 17) 1 [1, 18, 19] [(1, .pointer (some ⟨p3, 0, none⟩)), (18, .bool true), (19, .pointer (some ⟨p3, 1, none⟩))] (by kernel_rfl) rfl ?_
        refine GL.sem (j := 18) (H14.ld (o := 1) (ty := 22) (v := .int .u64 (m : Int)) 0 rfl (by kernel_rfl) rfl) [1, 18, 20] [(1, .pointer (some ⟨p3, 0, none⟩)), (18, .bool true), (20, .int .u64 (m : Int))] (by kernel_rfl) (by kernel_rfl) rfl ?_
        refine GL.run (j := 19) 1 [18, 20, 21] [(18, .bool true), (20, .int .u64 (m : Int)), (21, .pointer (some ⟨p3, 2, none⟩))] (by kernel_rfl) rfl ?_
        refine GL.sem (j := 20) (H14.ld (o := 2) (ty := 22) (v := .int .u64 (l : Int)) 0 rfl (by kernel_rfl) rfl) [18, 20, 22] [(18, .bool true), (20, .int .u64 (m : Int)), (22, .int .u64 (l : Int))] (by kernel_rfl) (by kernel_rfl) rfl ?_
        refine GL.run (j := 23) 3 [2] [(2, .bool (decide ((l : Int) ≤ (m : Int))))] (by kernel_rfl) rfl ?_
        refine GL.k rfl hK8 (fun _ _ h => h) ?_
        refine G.ret ?_
        intro F_ hF_ hM_
        refine hRet _ _ (bodyPost_1 rfl (RV.tmp rfl) ?_ F_ hF_ hM_)
        have e0 : ((decide ((l : Int) ≤ (m : Int))) : Bool) = decide (((1 ≤ s ∧ s ≤ 1000000) ∧ (1 ≤ l ∧ l ≤ 1000000) ∧ m ≤ s ∧ l ≤ m)) := by
          rw [Bool.eq_iff_iff]
          simp only [decide_eq_true_eq, Bool.true_eq_false, Bool.false_eq_true, true_iff, false_iff]
          omega
        rw [e0]
        exact ⟨rfl, H14.sub (List.nil_sublist _)⟩
/-- The band of collateral a for parts b; and why there is none. -/
def bandV (s m l a b p : Nat) : Nat := if ((1 ≤ s ∧ s ≤ 1000000) ∧ (1 ≤ l ∧ l ≤ 1000000) ∧ m ≤ s ∧ l ≤ m) ∧ a ≤ 4611686018427387904 ∧ b ≤ 4611686018427387904 ∧ (1 ≤ p ∧ p ≤ 1099511627776) then (if enough a b p s = true then 0 else if enough a b p m = true then 1 else if enough a b p l = true then 2 else 3) else 0
def bandE (s m l a b p : Nat) : Nat := if ((1 ≤ s ∧ s ≤ 1000000) ∧ (1 ≤ l ∧ l ≤ 1000000) ∧ m ≤ s ∧ l ≤ m) ∧ a ≤ 4611686018427387904 ∧ b ≤ 4611686018427387904 ∧ (1 ≤ p ∧ p ≤ 1099511627776) then 0 else 1
theorem BOf_calls (s m l a b p : Nat) (hs : s < K) (hm : m < K) (hl : l < K) (ha : a < K) (hb : b < K) (hp : p < K) (w : World) : Calls Try.prog 18 #[.agg #[.int .u64 (s : Int), .int .u64 (m : Int), .int .u64 (l : Int)], .int .u64 (a : Int), .int .u64 (b : Int), .int .u64 (p : Int)] w fun e w' => e = .returned (.tuple #[.int .i64 ((bandV s m l a b p : Nat) : Int), .int .i64 ((bandE s m l a b p : Nat) : Int)]) ∧ Hp w [] [] w' := by
  have hMX : MX = 4611686018427387904 := rfl
  have hK0 : K = 18446744073709551616 := rfl
  have hK40 : K4 = 115792089237316195423570985008687907853269984665640564039457584007913129639936 := rfl
  refine calls_G (args := [.agg #[.int .u64 (s : Int), .int .u64 (m : Int), .int .u64 (l : Int)], .int .u64 (a : Int), .int .u64 (b : Int), .int .u64 (p : Int)]) Try.func18 rfl Try.ntmps18 rfl ?_
  intro Q0 hRet hNor hPan
  have H := Hp.start w
  have H : Hp w [] [] w := H
  refine G.seqK fun K1 hK2 => ?_
  refine G.region ?_
  obtain ⟨p3, w4, r5, H6⟩ := H.box (P := Try.prog) 42 [.int .u64 (s : Int), .int .u64 (m : Int), .int .u64 (l : Int)] (.agg #[.int .u64 (s : Int), .int .u64 (m : Int), .int .u64 (l : Int)]) rfl
  have H6 : Hp w [] [.blk p3 [.int .u64 (s : Int), .int .u64 (m : Int), .int .u64 (l : Int)] 42] w4 := H6
  refine GL.sem (j := 1) (r5) [1, 2, 3, 4] [(1, .int .u64 (a : Int)), (2, .int .u64 (b : Int)), (3, .int .u64 (p : Int)), (4, .pointer (some ⟨p3, 0, none⟩))] (by kernel_rfl) (by kernel_rfl) rfl ?_
  refine GL.run (j := 3) 2 [1, 2, 3, 4] [(1, .int .u64 (a : Int)), (2, .int .u64 (b : Int)), (3, .int .u64 (p : Int)), (4, .pointer (some ⟨p3, 0, none⟩))] (by kernel_rfl) rfl ?_
  refine GL.k rfl hK2 (fun _ _ h => h) ?_
  refine G.seqK fun K7 hK8 => ?_
  refine G.seqK fun K9 hK10 => ?_
  refine G.region ?_
  refine GL.sem (j := 1) (H6.ldA (o := 0) (ty := 42) (m := 3) (sub := [.int .u64 (s : Int), .int .u64 (m : Int), .int .u64 (l : Int)]) 0 rfl (by kernel_rfl) rfl rfl) [1, 2, 3, 4, 12] [(1, .int .u64 (a : Int)), (2, .int .u64 (b : Int)), (3, .int .u64 (p : Int)), (4, .pointer (some ⟨p3, 0, none⟩)), (12, .agg #[.int .u64 (s : Int), .int .u64 (m : Int), .int .u64 (l : Int)])] (by kernel_rfl) (by kernel_rfl) rfl ?_
  refine GL.call (j := 2) (BRight_calls s m l w4) (by kernel_rfl) rfl (fun e_ w11 hR => ?_)
  obtain ⟨rfl, H13⟩ := hR
  have H12 : Hp w [] [.blk p3 [.int .u64 (s : Int), .int .u64 (m : Int), .int .u64 (l : Int)] 42] w11 := H6.callNil H13
  refine ⟨_, rfl, [1, 2, 3, 4, 13], [(1, .int .u64 (a : Int)), (2, .int .u64 (b : Int)), (3, .int .u64 (p : Int)), (4, .pointer (some ⟨p3, 0, none⟩)), (13, .bool (decide ((1 ≤ s ∧ s ≤ 1000000) ∧ (1 ≤ l ∧ l ≤ 1000000) ∧ m ≤ s ∧ l ≤ m)))], by kernel_rfl, ?_⟩
  refine GL.run (j := 4) 2 [1, 2, 3, 4, 15] [(1, .int .u64 (a : Int)), (2, .int .u64 (b : Int)), (3, .int .u64 (p : Int)), (4, .pointer (some ⟨p3, 0, none⟩)), (15, .bool (!(decide ((1 ≤ s ∧ s ≤ 1000000) ∧ (1 ≤ l ∧ l ≤ 1000000) ∧ m ≤ s ∧ l ≤ m))))] (by kernel_rfl) rfl ?_
  cases hb14 : (decide ((1 ≤ s ∧ s ≤ 1000000) ∧ (1 ≤ l ∧ l ≤ 1000000) ∧ m ≤ s ∧ l ≤ m))
  · skip
    have hb14f := of_decide_eq_false hb14
    refine GL.run (j := 13) 9 [1, 2, 3, 4, 24] [(1, .int .u64 (a : Int)), (2, .int .u64 (b : Int)), (3, .int .u64 (p : Int)), (4, .pointer (some ⟨p3, 0, none⟩)), (24, .bool true)] (by kernel_rfl) rfl ?_
    refine GL.k rfl hK10 (fun _ _ h => h) ?_
    refine G.yes rfl ?_
    refine G.seqK fun K15 hK16 => ?_
    refine G.region ?_
    refine GL.run (j := 2) 2 [8, 9] [(8, .int .i64 0), (9, .int .i64 1)] (by kernel_rfl) rfl ?_
    refine GL.k rfl hK16 (fun _ _ h => h) ?_
    refine G.ret ?_
    intro F_ hF_ hM_
    refine hRet _ _ (bodyPost_2 rfl (RV.tmp rfl) (RV.tmp rfl) ?_ F_ hF_ hM_)
    have c1 : bandV s m l a b p = 0 := by rw [bandV, if_neg (by omega)]
    have c2 : bandE s m l a b p = 1 := by rw [bandE, if_neg (by omega)]
    rw [c1, c2]
    exact ⟨rfl, H12.sub (List.nil_sublist _)⟩
  · skip
    have hb14f := of_decide_eq_true hb14
    refine GL.run (j := 6) 2 [1, 2, 3, 4, 15, 16, 17] [(1, .int .u64 (a : Int)), (2, .int .u64 (b : Int)), (3, .int .u64 (p : Int)), (4, .pointer (some ⟨p3, 0, none⟩)), (15, .bool false), (16, .int .u64 (p : Int)), (17, .pointer (some ⟨p3, 2, none⟩))] (by kernel_rfl) rfl ?_
    refine GL.sem (j := 7) (H12.ld (o := 2) (ty := 22) (v := .int .u64 (l : Int)) 0 rfl (by kernel_rfl) rfl) [1, 2, 3, 4, 15, 16, 18] [(1, .int .u64 (a : Int)), (2, .int .u64 (b : Int)), (3, .int .u64 (p : Int)), (4, .pointer (some ⟨p3, 0, none⟩)), (15, .bool false), (16, .int .u64 (p : Int)), (18, .int .u64 (l : Int))] (by kernel_rfl) (by kernel_rfl) rfl ?_
    refine GL.run (j := 9) 2 [1, 2, 3, 4, 15, 16, 18, 19, 20] [(1, .int .u64 (a : Int)), (2, .int .u64 (b : Int)), (3, .int .u64 (p : Int)), (4, .pointer (some ⟨p3, 0, none⟩)), (15, .bool false), (16, .int .u64 (p : Int)), (18, .int .u64 (l : Int)), (19, .int .u64 (a : Int)), (20, .int .u64 (b : Int))] (by kernel_rfl) rfl ?_
    obtain ⟨p17, w18, r19, H20⟩ := H12.made (P := Try.prog) (Instr.buildSlice 66 2 #[(0, .int .u64 (a : Int)), (1, .int .u64 (b : Int))]) (fun b_ => .slice (some ⟨b_, 0, none⟩) 2 2) [.int .u64 (a : Int), .int .u64 (b : Int)] 23 (by kernel_rfl)
    have H20 : Hp w [] [.blk p3 [.int .u64 (s : Int), .int .u64 (m : Int), .int .u64 (l : Int)] 42, .blk p17 [.int .u64 (a : Int), .int .u64 (b : Int)] 23] w18 := H20
    refine GL.sem (j := 10) (r19) [1, 2, 3, 4, 15, 16, 18, 21] [(1, .int .u64 (a : Int)), (2, .int .u64 (b : Int)), (3, .int .u64 (p : Int)), (4, .pointer (some ⟨p3, 0, none⟩)), (15, .bool false), (16, .int .u64 (p : Int)), (18, .int .u64 (l : Int)), (21, .slice (some ⟨p17, 0, none⟩) 2 2)] (by kernel_rfl) (by kernel_rfl) rfl ?_
    refine GL.call (j := 11) (right2_calls p l a b (some ⟨p17, 0, none⟩) 2 w18 (H20.rdBlk (o := 0) (xs := [.int .u64 (a : Int), .int .u64 (b : Int)]) 1 2 rfl rfl)) (by kernel_rfl) rfl (fun e_ w21 hR => ?_)
    obtain ⟨rfl, H23⟩ := hR
    have H22 : Hp w [] [.blk p3 [.int .u64 (s : Int), .int .u64 (m : Int), .int .u64 (l : Int)] 42, .blk p17 [.int .u64 (a : Int), .int .u64 (b : Int)] 23] w21 := H20.callNil H23
    refine ⟨_, rfl, [1, 2, 3, 4, 15, 22], [(1, .int .u64 (a : Int)), (2, .int .u64 (b : Int)), (3, .int .u64 (p : Int)), (4, .pointer (some ⟨p3, 0, none⟩)), (15, .bool false), (22, .bool (decide (a ≤ 4611686018427387904 ∧ b ≤ 4611686018427387904 ∧ (1 ≤ p ∧ p ≤ 1099511627776) ∧ (1 ≤ l ∧ l ≤ 1000000))))], by kernel_rfl, ?_⟩
    refine GL.run (j := 13) 2 [1, 2, 3, 4, 24] [(1, .int .u64 (a : Int)), (2, .int .u64 (b : Int)), (3, .int .u64 (p : Int)), (4, .pointer (some ⟨p3, 0, none⟩)), (24, .bool (!(decide (a ≤ 4611686018427387904 ∧ b ≤ 4611686018427387904 ∧ (1 ≤ p ∧ p ≤ 1099511627776) ∧ (1 ≤ l ∧ l ≤ 1000000)))))] (by kernel_rfl) rfl ?_
    refine GL.k rfl hK10 (fun _ _ h => h) ?_
    cases hb24 : (decide (a ≤ 4611686018427387904 ∧ b ≤ 4611686018427387904 ∧ (1 ≤ p ∧ p ≤ 1099511627776) ∧ (1 ≤ l ∧ l ≤ 1000000)))
    · skip
      have hb24f := of_decide_eq_false hb24
      refine G.yes rfl ?_
      refine G.seqK fun K25 hK26 => ?_
      refine G.region ?_
      refine GL.run (j := 2) 2 [8, 9] [(8, .int .i64 0), (9, .int .i64 1)] (by kernel_rfl) rfl ?_
      refine GL.k rfl hK26 (fun _ _ h => h) ?_
      refine G.ret ?_
      intro F_ hF_ hM_
      refine hRet _ _ (bodyPost_2 rfl (RV.tmp rfl) (RV.tmp rfl) ?_ F_ hF_ hM_)
      have c1 : bandV s m l a b p = 0 := by rw [bandV, if_neg (by omega)]
      have c2 : bandE s m l a b p = 1 := by rw [bandE, if_neg (by omega)]
      rw [c1, c2]
      exact ⟨rfl, H22.sub (List.nil_sublist _)⟩
    · skip
      have hb24f := of_decide_eq_true hb24
      refine G.no rfl ?_
      refine G.skipK hK8 (fun _ _ h => h) ?_
      refine G.seqK fun K27 hK28 => ?_
      refine G.seqK fun K29 hK30 => ?_
      refine G.region ?_
      refine GL.run (j := 1) 1 [1, 2, 3, 4, 25] [(1, .int .u64 (a : Int)), (2, .int .u64 (b : Int)), (3, .int .u64 (p : Int)), (4, .pointer (some ⟨p3, 0, none⟩)), (25, .pointer (some ⟨p3, 0, none⟩))] (by kernel_rfl) rfl ?_
      refine GL.sem (j := 2) (H22.ld (o := 0) (ty := 22) (v := .int .u64 (s : Int)) 0 rfl (by kernel_rfl) rfl) [1, 2, 3, 4, 26] [(1, .int .u64 (a : Int)), (2, .int .u64 (b : Int)), (3, .int .u64 (p : Int)), (4, .pointer (some ⟨p3, 0, none⟩)), (26, .int .u64 (s : Int))] (by kernel_rfl) (by kernel_rfl) rfl ?_
      refine GL.run (j := 3) 1 [1, 2, 3, 4, 26, 27] [(1, .int .u64 (a : Int)), (2, .int .u64 (b : Int)), (3, .int .u64 (p : Int)), (4, .pointer (some ⟨p3, 0, none⟩)), (26, .int .u64 (s : Int)), (27, .pointer (some ⟨p3, 1, none⟩))] (by kernel_rfl) rfl ?_
      refine GL.sem (j := 4) (H22.ld (o := 1) (ty := 22) (v := .int .u64 (m : Int)) 0 rfl (by kernel_rfl) rfl) [1, 2, 3, 4, 26, 28] [(1, .int .u64 (a : Int)), (2, .int .u64 (b : Int)), (3, .int .u64 (p : Int)), (4, .pointer (some ⟨p3, 0, none⟩)), (26, .int .u64 (s : Int)), (28, .int .u64 (m : Int))] (by kernel_rfl) (by kernel_rfl) rfl ?_
      refine GL.run (j := 5) 1 [1, 2, 3, 26, 28, 29] [(1, .int .u64 (a : Int)), (2, .int .u64 (b : Int)), (3, .int .u64 (p : Int)), (26, .int .u64 (s : Int)), (28, .int .u64 (m : Int)), (29, .pointer (some ⟨p3, 2, none⟩))] (by kernel_rfl) rfl ?_
      refine GL.sem (j := 6) (H22.ld (o := 2) (ty := 22) (v := .int .u64 (l : Int)) 0 rfl (by kernel_rfl) rfl) [1, 2, 3, 26, 28, 30] [(1, .int .u64 (a : Int)), (2, .int .u64 (b : Int)), (3, .int .u64 (p : Int)), (26, .int .u64 (s : Int)), (28, .int .u64 (m : Int)), (30, .int .u64 (l : Int))] (by kernel_rfl) (by kernel_rfl) rfl ?_
      refine GL.run (j := 8) 2 [1, 2, 3, 31, 32] [(1, .int .u64 (a : Int)), (2, .int .u64 (b : Int)), (3, .int .u64 (p : Int)), (31, .agg #[.int .u64 (s : Int), .int .u64 (m : Int), .int .u64 (l : Int)]), (32, .int .i64 0)] (by kernel_rfl) rfl ?_
      refine GL.k rfl hK30 (fun _ _ h => h) ?_
      refine G.block ?_
      refine G.unroll 3 ?_
      refine G.seqK fun K31 hK32 => ?_
      refine G.region ?_
      refine GL.run (j := 1) 1 [1, 2, 3, 31, 32, 33] [(1, .int .u64 (a : Int)), (2, .int .u64 (b : Int)), (3, .int .u64 (p : Int)), (31, .agg #[.int .u64 (s : Int), .int .u64 (m : Int), .int .u64 (l : Int)]), (32, .int .i64 0), (33, .bool true)] (by kernel_rfl) rfl ?_
      refine GL.k rfl hK32 (fun _ _ h => h) ?_
      refine G.seqK fun K33 hK34 => ?_
      refine G.yes rfl ?_
      refine G.skipK hK34 (fun _ _ h => h) ?_
      refine G.seqK fun K35 hK36 => ?_
      refine G.block ?_
      refine G.seqK fun K37 hK38 => ?_
      refine G.region ?_
      refine GL.run (j := 4) 4 [1, 2, 3, 10, 11, 31, 32] [(1, .int .u64 (a : Int)), (2, .int .u64 (b : Int)), (3, .int .u64 (p : Int)), (10, .int .i64 0), (11, .int .u64 (s : Int)), (31, .agg #[.int .u64 (s : Int), .int .u64 (m : Int), .int .u64 (l : Int)]), (32, .int .i64 0)] (by kernel_rfl) rfl ?_
      refine GL.k rfl hK38 (fun _ _ h => h) ?_
      refine G.seqK fun K39 hK40 => ?_
      refine G.region ?_
      refine GL.run (j := 4) 4 [1, 2, 3, 10, 31, 32, 36, 37, 38, 39] [(1, .int .u64 (a : Int)), (2, .int .u64 (b : Int)), (3, .int .u64 (p : Int)), (10, .int .i64 0), (31, .agg #[.int .u64 (s : Int), .int .u64 (m : Int), .int .u64 (l : Int)]), (32, .int .i64 0), (36, .int .u64 (a : Int)), (37, .int .u64 (b : Int)), (38, .int .u64 (p : Int)), (39, .int .u64 (s : Int))] (by kernel_rfl) rfl ?_
      refine GL.call (j := 5) (Enough_calls a b p s ha hb hp hs w21) (by kernel_rfl) rfl (fun e_ w41 hR => ?_)
      obtain ⟨rfl, H43⟩ := hR
      have H42 : Hp w [] [.blk p3 [.int .u64 (s : Int), .int .u64 (m : Int), .int .u64 (l : Int)] 42, .blk p17 [.int .u64 (a : Int), .int .u64 (b : Int)] 23] w41 := H22.callNil H43
      refine ⟨_, rfl, [1, 2, 3, 10, 31, 32, 40], [(1, .int .u64 (a : Int)), (2, .int .u64 (b : Int)), (3, .int .u64 (p : Int)), (10, .int .i64 0), (31, .agg #[.int .u64 (s : Int), .int .u64 (m : Int), .int .u64 (l : Int)]), (32, .int .i64 0), (40, .bool (enough a b p s))], by kernel_rfl, ?_⟩
      refine GL.k rfl hK40 (fun _ _ h => h) ?_
      cases hb44 : (enough a b p s)
      · skip
        have hS := hb44
        refine G.no rfl ?_
        refine G.skipK hK36 (fun _ _ h => h) ?_
        refine G.region ?_
        refine GL.run (j := 2) 2 [1, 2, 3, 31, 32] [(1, .int .u64 (a : Int)), (2, .int .u64 (b : Int)), (3, .int .u64 (p : Int)), (31, .agg #[.int .u64 (s : Int), .int .u64 (m : Int), .int .u64 (l : Int)]), (32, .int .i64 1)] (by kernel_rfl) rfl ?_
        refine GL.round rfl ?_
        refine G.seqK fun K45 hK46 => ?_
        refine G.region ?_
        refine GL.run (j := 1) 1 [1, 2, 3, 31, 32, 33] [(1, .int .u64 (a : Int)), (2, .int .u64 (b : Int)), (3, .int .u64 (p : Int)), (31, .agg #[.int .u64 (s : Int), .int .u64 (m : Int), .int .u64 (l : Int)]), (32, .int .i64 1), (33, .bool true)] (by kernel_rfl) rfl ?_
        refine GL.k rfl hK46 (fun _ _ h => h) ?_
        refine G.seqK fun K47 hK48 => ?_
        refine G.yes rfl ?_
        refine G.skipK hK48 (fun _ _ h => h) ?_
        refine G.seqK fun K49 hK50 => ?_
        refine G.block ?_
        refine G.seqK fun K51 hK52 => ?_
        refine G.region ?_
        refine GL.run (j := 4) 4 [1, 2, 3, 10, 11, 31, 32] [(1, .int .u64 (a : Int)), (2, .int .u64 (b : Int)), (3, .int .u64 (p : Int)), (10, .int .i64 1), (11, .int .u64 (m : Int)), (31, .agg #[.int .u64 (s : Int), .int .u64 (m : Int), .int .u64 (l : Int)]), (32, .int .i64 1)] (by kernel_rfl) rfl ?_
        refine GL.k rfl hK52 (fun _ _ h => h) ?_
        refine G.seqK fun K53 hK54 => ?_
        refine G.region ?_
        refine GL.run (j := 4) 4 [1, 2, 3, 10, 31, 32, 36, 37, 38, 39] [(1, .int .u64 (a : Int)), (2, .int .u64 (b : Int)), (3, .int .u64 (p : Int)), (10, .int .i64 1), (31, .agg #[.int .u64 (s : Int), .int .u64 (m : Int), .int .u64 (l : Int)]), (32, .int .i64 1), (36, .int .u64 (a : Int)), (37, .int .u64 (b : Int)), (38, .int .u64 (p : Int)), (39, .int .u64 (m : Int))] (by kernel_rfl) rfl ?_
        refine GL.call (j := 5) (Enough_calls a b p m ha hb hp hm w41) (by kernel_rfl) rfl (fun e_ w55 hR => ?_)
        obtain ⟨rfl, H57⟩ := hR
        have H56 : Hp w [] [.blk p3 [.int .u64 (s : Int), .int .u64 (m : Int), .int .u64 (l : Int)] 42, .blk p17 [.int .u64 (a : Int), .int .u64 (b : Int)] 23] w55 := H42.callNil H57
        refine ⟨_, rfl, [1, 2, 3, 10, 31, 32, 40], [(1, .int .u64 (a : Int)), (2, .int .u64 (b : Int)), (3, .int .u64 (p : Int)), (10, .int .i64 1), (31, .agg #[.int .u64 (s : Int), .int .u64 (m : Int), .int .u64 (l : Int)]), (32, .int .i64 1), (40, .bool (enough a b p m))], by kernel_rfl, ?_⟩
        refine GL.k rfl hK54 (fun _ _ h => h) ?_
        cases hb58 : (enough a b p m)
        · skip
          have hM := hb58
          refine G.no rfl ?_
          refine G.skipK hK50 (fun _ _ h => h) ?_
          refine G.region ?_
          refine GL.run (j := 2) 2 [1, 2, 3, 31, 32] [(1, .int .u64 (a : Int)), (2, .int .u64 (b : Int)), (3, .int .u64 (p : Int)), (31, .agg #[.int .u64 (s : Int), .int .u64 (m : Int), .int .u64 (l : Int)]), (32, .int .i64 2)] (by kernel_rfl) rfl ?_
          refine GL.round rfl ?_
          refine G.seqK fun K59 hK60 => ?_
          refine G.region ?_
          refine GL.run (j := 1) 1 [1, 2, 3, 31, 32, 33] [(1, .int .u64 (a : Int)), (2, .int .u64 (b : Int)), (3, .int .u64 (p : Int)), (31, .agg #[.int .u64 (s : Int), .int .u64 (m : Int), .int .u64 (l : Int)]), (32, .int .i64 2), (33, .bool true)] (by kernel_rfl) rfl ?_
          refine GL.k rfl hK60 (fun _ _ h => h) ?_
          refine G.seqK fun K61 hK62 => ?_
          refine G.yes rfl ?_
          refine G.skipK hK62 (fun _ _ h => h) ?_
          refine G.seqK fun K63 hK64 => ?_
          refine G.block ?_
          refine G.seqK fun K65 hK66 => ?_
          refine G.region ?_
          refine GL.run (j := 4) 4 [1, 2, 3, 10, 11, 31, 32] [(1, .int .u64 (a : Int)), (2, .int .u64 (b : Int)), (3, .int .u64 (p : Int)), (10, .int .i64 2), (11, .int .u64 (l : Int)), (31, .agg #[.int .u64 (s : Int), .int .u64 (m : Int), .int .u64 (l : Int)]), (32, .int .i64 2)] (by kernel_rfl) rfl ?_
          refine GL.k rfl hK66 (fun _ _ h => h) ?_
          refine G.seqK fun K67 hK68 => ?_
          refine G.region ?_
          refine GL.run (j := 4) 4 [1, 2, 3, 10, 31, 32, 36, 37, 38, 39] [(1, .int .u64 (a : Int)), (2, .int .u64 (b : Int)), (3, .int .u64 (p : Int)), (10, .int .i64 2), (31, .agg #[.int .u64 (s : Int), .int .u64 (m : Int), .int .u64 (l : Int)]), (32, .int .i64 2), (36, .int .u64 (a : Int)), (37, .int .u64 (b : Int)), (38, .int .u64 (p : Int)), (39, .int .u64 (l : Int))] (by kernel_rfl) rfl ?_
          refine GL.call (j := 5) (Enough_calls a b p l ha hb hp hl w55) (by kernel_rfl) rfl (fun e_ w69 hR => ?_)
          obtain ⟨rfl, H71⟩ := hR
          have H70 : Hp w [] [.blk p3 [.int .u64 (s : Int), .int .u64 (m : Int), .int .u64 (l : Int)] 42, .blk p17 [.int .u64 (a : Int), .int .u64 (b : Int)] 23] w69 := H56.callNil H71
          refine ⟨_, rfl, [1, 2, 3, 10, 31, 32, 40], [(1, .int .u64 (a : Int)), (2, .int .u64 (b : Int)), (3, .int .u64 (p : Int)), (10, .int .i64 2), (31, .agg #[.int .u64 (s : Int), .int .u64 (m : Int), .int .u64 (l : Int)]), (32, .int .i64 2), (40, .bool (enough a b p l))], by kernel_rfl, ?_⟩
          refine GL.k rfl hK68 (fun _ _ h => h) ?_
          cases hb72 : (enough a b p l)
          · skip
            have hL := hb72
            refine G.no rfl ?_
            refine G.skipK hK64 (fun _ _ h => h) ?_
            refine G.region ?_
            refine GL.run (j := 2) 2 [1, 2, 3, 31, 32] [(1, .int .u64 (a : Int)), (2, .int .u64 (b : Int)), (3, .int .u64 (p : Int)), (31, .agg #[.int .u64 (s : Int), .int .u64 (m : Int), .int .u64 (l : Int)]), (32, .int .i64 3)] (by kernel_rfl) rfl ?_
            refine GL.round rfl ?_
            refine G.seqK fun K73 hK74 => ?_
            refine G.region ?_
            refine GL.run (j := 1) 1 [1, 2, 3, 31, 32, 33] [(1, .int .u64 (a : Int)), (2, .int .u64 (b : Int)), (3, .int .u64 (p : Int)), (31, .agg #[.int .u64 (s : Int), .int .u64 (m : Int), .int .u64 (l : Int)]), (32, .int .i64 3), (33, .bool false)] (by kernel_rfl) rfl ?_
            refine GL.k rfl hK74 (fun _ _ h => h) ?_
            refine G.seqK fun K75 hK76 => ?_
            refine G.no rfl ?_
            refine G.exitK hK28 (fun _ _ h => h) ?_
            refine G.seqK fun K77 hK78 => ?_
            refine G.region ?_
            refine GL.run (j := 2) 2 [8, 9] [(8, .int .i64 3), (9, .int .i64 0)] (by kernel_rfl) rfl ?_
            refine GL.k rfl hK78 (fun _ _ h => h) ?_
            refine G.ret ?_
            intro F_ hF_ hM_
            refine hRet _ _ (bodyPost_2 rfl (RV.tmp rfl) (RV.tmp rfl) ?_ F_ hF_ hM_)
            have c1 : bandV s m l a b p = 3 := by rw [bandV, if_pos (by omega)]; simp [hS, hM, hL]
            have c2 : bandE s m l a b p = 0 := by rw [bandE, if_pos (by omega)]
            rw [c1, c2]
            exact ⟨rfl, H70.sub (List.nil_sublist _)⟩
          · skip
            have hL := hb72
            refine G.yes rfl ?_
            refine G.seqK fun K79 hK80 => ?_
            refine G.region ?_
            refine GL.run (j := 3) 3 [8, 9] [(8, .int .i64 2), (9, .int .i64 0)] (by kernel_rfl) rfl ?_
            refine GL.k rfl hK80 (fun _ _ h => h) ?_
            refine G.ret ?_
            intro F_ hF_ hM_
            refine hRet _ _ (bodyPost_2 rfl (RV.tmp rfl) (RV.tmp rfl) ?_ F_ hF_ hM_)
            have c1 : bandV s m l a b p = 2 := by rw [bandV, if_pos (by omega)]; simp [hS, hM, hL]
            have c2 : bandE s m l a b p = 0 := by rw [bandE, if_pos (by omega)]
            rw [c1, c2]
            exact ⟨rfl, H70.sub (List.nil_sublist _)⟩
        · skip
          have hM := hb58
          refine G.yes rfl ?_
          refine G.seqK fun K81 hK82 => ?_
          refine G.region ?_
          refine GL.run (j := 3) 3 [8, 9] [(8, .int .i64 1), (9, .int .i64 0)] (by kernel_rfl) rfl ?_
          refine GL.k rfl hK82 (fun _ _ h => h) ?_
          refine G.ret ?_
          intro F_ hF_ hM_
          refine hRet _ _ (bodyPost_2 rfl (RV.tmp rfl) (RV.tmp rfl) ?_ F_ hF_ hM_)
          have c1 : bandV s m l a b p = 1 := by rw [bandV, if_pos (by omega)]; simp [hS, hM]
          have c2 : bandE s m l a b p = 0 := by rw [bandE, if_pos (by omega)]
          rw [c1, c2]
          exact ⟨rfl, H56.sub (List.nil_sublist _)⟩
      · skip
        have hS := hb44
        refine G.yes rfl ?_
        refine G.seqK fun K83 hK84 => ?_
        refine G.region ?_
        refine GL.run (j := 3) 3 [8, 9] [(8, .int .i64 0), (9, .int .i64 0)] (by kernel_rfl) rfl ?_
        refine GL.k rfl hK84 (fun _ _ h => h) ?_
        refine G.ret ?_
        intro F_ hF_ hM_
        refine hRet _ _ (bodyPost_2 rfl (RV.tmp rfl) (RV.tmp rfl) ?_ F_ hF_ hM_)
        have c1 : bandV s m l a b p = 0 := by rw [bandV, if_pos (by omega)]; simp [hS]
        have c2 : bandE s m l a b p = 0 := by rw [bandE, if_pos (by omega)]
        rw [c1, c2]
        exact ⟨rfl, H42.sub (List.nil_sublist _)⟩
def divE (n d : Nat) (m : Bool) : Nat := if divF n d m = true then 0 else 4
theorem divide_up (a b c x y : Nat) (ha : a < K) (hb : b < K) (hc : c < K) (hx : x < K) (hy : y < K) (hn : a * b * c + 1 < K4) (hd : x * y ≠ 0) (w : World) : Calls Try.prog 33 #[.int .u64 (a : Int), .int .u64 (b : Int), .int .u64 (c : Int), .int .u64 (x : Int), .int .u64 (y : Int), .bool true] w fun e w' => e = .returned (.tuple #[.int .u64 ((divV (a * b * c) (x * y) true : Nat) : Int), .int .i64 ((divE (a * b * c) (x * y) true : Nat) : Int)]) ∧ Hp w [] [] w' := by
  have hMX : MX = 4611686018427387904 := rfl
  have hK0 : K = 18446744073709551616 := rfl
  have hK40 : K4 = 115792089237316195423570985008687907853269984665640564039457584007913129639936 := rfl
  refine calls_G (args := [.int .u64 (a : Int), .int .u64 (b : Int), .int .u64 (c : Int), .int .u64 (x : Int), .int .u64 (y : Int), .bool true]) Try.func33 rfl Try.ntmps33 rfl ?_
  intro Q0 hRet hNor hPan
  have H := Hp.start w
  have H : Hp w [] [] w := H
  refine G.seqK fun K1 hK2 => ?_
  refine G.region ?_
  refine GL.run (j := 2) 2 [0, 1, 2, 3, 4, 5] [(0, .int .u64 (a : Int)), (1, .int .u64 (b : Int)), (2, .int .u64 (c : Int)), (3, .int .u64 (x : Int)), (4, .int .u64 (y : Int)), (5, .bool true)] (by kernel_rfl) rfl ?_
  refine GL.k rfl hK2 (fun _ _ h => h) ?_
  refine G.seqK fun K3 hK4 => ?_
  refine G.region ?_
  refine GL.run (j := 2) 2 [2, 3, 4, 5, 22, 23] [(2, .int .u64 (c : Int)), (3, .int .u64 (x : Int)), (4, .int .u64 (y : Int)), (5, .bool true), (22, .int .u64 (a : Int)), (23, .int .u64 (b : Int))] (by kernel_rfl) rfl ?_
  refine GL.call (j := 3) (Product_calls a b ha hb w) (by kernel_rfl) rfl (fun e_ w5 hR => ?_)
  obtain ⟨he_, H7⟩ := hR
  obtain ⟨n8, hn9⟩ : ∃ v : Nat, v = a * b := ⟨_, rfl⟩
  rw [← hn9] at he_
  have n8l : n8 < K4 := by rw [hn9]; exact prod_lt ha hb
  subst he_
  have H6 : Hp w [] [] w5 := H.callNil H7
  refine ⟨_, rfl, [2, 3, 4, 5, 24], [(2, .int .u64 (c : Int)), (3, .int .u64 (x : Int)), (4, .int .u64 (y : Int)), (5, .bool true), (24, wv n8)], by kernel_rfl, ?_⟩
  refine GL.run (j := 4) 1 [3, 4, 5, 24, 25] [(3, .int .u64 (x : Int)), (4, .int .u64 (y : Int)), (5, .bool true), (24, wv n8), (25, .int .u64 (c : Int))] (by kernel_rfl) rfl ?_
  refine GL.call (j := 5) (Mul_calls n8 c n8l hc w5) (by kernel_rfl) rfl (fun e_ w10 hR => ?_)
  obtain ⟨he_, H12⟩ := hR
  obtain ⟨n13, hn14⟩ : ∃ v : Nat, v = n8 * c % K4 := ⟨_, rfl⟩
  rw [← hn14] at he_
  have n13l : n13 < K4 := by rw [hn14]; exact Nat.mod_lt _ (by decide)
  subst he_
  have H11 : Hp w [] [] w10 := H6.callNil H12
  refine ⟨_, rfl, [3, 4, 5, 26], [(3, .int .u64 (x : Int)), (4, .int .u64 (y : Int)), (5, .bool true), (26, .tuple #[wv n13, .bool (decide (K4 ≤ n8 * c))])], by kernel_rfl, ?_⟩
  refine GL.run (j := 8) 3 [3, 4, 5, 27, 28] [(3, .int .u64 (x : Int)), (4, .int .u64 (y : Int)), (5, .bool true), (27, wv n13), (28, .bool (decide (K4 ≤ n8 * c)))] (by kernel_rfl) rfl ?_
  obtain ⟨p15, w16, r17, H18⟩ := H11.alloc (P := Try.prog) 51 [.int .u64 0, .int .u64 0, .int .u64 0, .int .u64 0] (by kernel_rfl)
  have H18 : Hp w [] [.blk p15 [.int .u64 0, .int .u64 0, .int .u64 0, .int .u64 0] 51] w16 := H18
  refine GL.sem (j := 9) (r17) [3, 4, 5, 14, 27, 28] [(3, .int .u64 (x : Int)), (4, .int .u64 (y : Int)), (5, .bool true), (14, .pointer (some ⟨p15, 0, none⟩)), (27, wv n13), (28, .bool (decide (K4 ≤ n8 * c)))] (by kernel_rfl) (by kernel_rfl) rfl ?_
  obtain ⟨w19, r20, H21⟩ := H18.stA (P := Try.prog) (o := 0) (vs := [.int .u64 (wd n13 0 : Int), .int .u64 (wd n13 1 : Int), .int .u64 (wd n13 2 : Int), .int .u64 (wd n13 3 : Int)]) (ty := 51) (m := 4) 0 rfl (by kernel_rfl) rfl (by simp) (by simp [Value.oneCell'])
  have H21 : Hp w [] [.blk p15 [.int .u64 (wd n13 0 : Int), .int .u64 (wd n13 1 : Int), .int .u64 (wd n13 2 : Int), .int .u64 (wd n13 3 : Int)] 51] w19 := H21
  refine GL.semU (j := 10) r20 [3, 4, 5, 14, 28] [(3, .int .u64 (x : Int)), (4, .int .u64 (y : Int)), (5, .bool true), (14, .pointer (some ⟨p15, 0, none⟩)), (28, .bool (decide (K4 ≤ n8 * c)))] (by kernel_rfl) rfl rfl rfl ?_
  refine GL.run (j := 11) 1 [3, 4, 5, 14] [(3, .int .u64 (x : Int)), (4, .int .u64 (y : Int)), (5, .bool true), (14, .pointer (some ⟨p15, 0, none⟩))] (by kernel_rfl) rfl ?_
  refine GL.k rfl hK4 (fun _ _ h => h) ?_
  refine G.seqK fun K22 hK23 => ?_
  refine G.heldP (Hp w [] [.blk p15 [.int .u64 (wd n13 0 : Int), .int .u64 (wd n13 1 : Int), .int .u64 (wd n13 2 : Int), .int .u64 (wd n13 3 : Int)] 51]) (by kernel_rfl) (by kernel_rfl) (fun c_ a_ d_ v_ w_ h_ => hPan c_ a_ d_ v_ w_ h_) ?_
  have H24 := H21.drew
  generalize ({ w19 with drawn := w19.drawn + 1 } : World) = w25 at H24 ⊢
  have hS26 : Hp w [] [.blk p15 [.int .u64 (wd n13 0 : Int), .int .u64 (wd n13 1 : Int), .int .u64 (wd n13 2 : Int), .int .u64 (wd n13 3 : Int)] 51] w25 := H24.sub (List.Sublist.cons_cons _ (List.Sublist.slnil))
  refine GP.sem 0 (fun w_ H_ => H_.ldA (o := 0) (ty := 51) (m := 4) (sub := [.int .u64 (wd n13 0 : Int), .int .u64 (wd n13 1 : Int), .int .u64 (wd n13 2 : Int), .int .u64 (wd n13 3 : Int)]) 0 rfl (by kernel_rfl) rfl rfl) [3, 4, 5, 30] [(3, .int .u64 (x : Int)), (4, .int .u64 (y : Int)), (5, .bool true), (30, wv n13)] (by kernel_rfl) (by kernel_rfl) (by kernel_rfl) hS26 ?_
  refine GP.run [1, 2] [5, 30, 31, 32] [(5, .bool true), (30, wv n13), (31, .int .u64 (x : Int)), (32, .int .u64 (y : Int))] [0, 1, 2] (by kernel_rfl) rfl hS26 ?_
  refine GP.named fun X hX => ?_
  have st130 : ∀ (wD_ : World) (p73 : Nat) (p105 : Nat), Hp w [] [.blk p15 [.int .u64 (wd n13 0 : Int), .int .u64 (wd n13 1 : Int), .int .u64 (wd n13 2 : Int), .int .u64 (wd n13 3 : Int)] 51, .blk p73 [.int .u64 0, .int .u64 0, .int .u64 0, .int .u64 0] 51, .blk p105 [.int .u64 0, .int .u64 0, .int .u64 0, .int .u64 0] 51] wD_ → X [0, 1, 2, 3, 4, 5, 6, 7, 8, 9, 10] [(5, .bool true), (16, .pointer (some ⟨p73, 0, none⟩)), (17, .pointer (some ⟨p105, 0, none⟩)), (35, wv (n13 / (x * y))), (36, wv (n13 % (x * y))), (37, .int .i64 0)] wD_ := by
    intro wD_ p73 p105 HD_
    rw [hX]
    have hS131 : Hp w [] [.blk p15 [.int .u64 (wd n13 0 : Int), .int .u64 (wd n13 1 : Int), .int .u64 (wd n13 2 : Int), .int .u64 (wd n13 3 : Int)] 51] wD_ := HD_.sub (List.Sublist.cons_cons _ (List.Sublist.cons _ (List.Sublist.cons _ (List.Sublist.slnil))))
    obtain ⟨w132, r133, H134⟩ := HD_.stA (P := Try.prog) (o := 0) (vs := [.int .u64 (wd (n13 / (x * y)) 0 : Int), .int .u64 (wd (n13 / (x * y)) 1 : Int), .int .u64 (wd (n13 / (x * y)) 2 : Int), .int .u64 (wd (n13 / (x * y)) 3 : Int)]) (ty := 51) (m := 4) 1 rfl (by kernel_rfl) rfl (by simp) (by simp [Value.oneCell'])
    have H134 : Hp w [] [.blk p15 [.int .u64 (wd n13 0 : Int), .int .u64 (wd n13 1 : Int), .int .u64 (wd n13 2 : Int), .int .u64 (wd n13 3 : Int)] 51, .blk p73 [.int .u64 (wd (n13 / (x * y)) 0 : Int), .int .u64 (wd (n13 / (x * y)) 1 : Int), .int .u64 (wd (n13 / (x * y)) 2 : Int), .int .u64 (wd (n13 / (x * y)) 3 : Int)] 51, .blk p105 [.int .u64 0, .int .u64 0, .int .u64 0, .int .u64 0] 51] w132 := H134
    have hS135 : Hp w [] [.blk p15 [.int .u64 (wd n13 0 : Int), .int .u64 (wd n13 1 : Int), .int .u64 (wd n13 2 : Int), .int .u64 (wd n13 3 : Int)] 51] w132 := H134.sub (List.Sublist.cons_cons _ (List.Sublist.cons _ (List.Sublist.cons _ (List.Sublist.slnil))))
    refine GP.semU 11 r133 [5, 16, 17, 36, 37] [(5, .bool true), (16, .pointer (some ⟨p73, 0, none⟩)), (17, .pointer (some ⟨p105, 0, none⟩)), (36, wv (n13 % (x * y))), (37, .int .i64 0)] (by kernel_rfl) rfl rfl (by kernel_rfl) hS135 ?_
    obtain ⟨w136, r137, H138⟩ := H134.stA (P := Try.prog) (o := 0) (vs := [.int .u64 (wd (n13 % (x * y)) 0 : Int), .int .u64 (wd (n13 % (x * y)) 1 : Int), .int .u64 (wd (n13 % (x * y)) 2 : Int), .int .u64 (wd (n13 % (x * y)) 3 : Int)]) (ty := 51) (m := 4) 2 rfl (by kernel_rfl) rfl (by simp) (by simp [Value.oneCell'])
    have H138 : Hp w [] [.blk p15 [.int .u64 (wd n13 0 : Int), .int .u64 (wd n13 1 : Int), .int .u64 (wd n13 2 : Int), .int .u64 (wd n13 3 : Int)] 51, .blk p73 [.int .u64 (wd (n13 / (x * y)) 0 : Int), .int .u64 (wd (n13 / (x * y)) 1 : Int), .int .u64 (wd (n13 / (x * y)) 2 : Int), .int .u64 (wd (n13 / (x * y)) 3 : Int)] 51, .blk p105 [.int .u64 (wd (n13 % (x * y)) 0 : Int), .int .u64 (wd (n13 % (x * y)) 1 : Int), .int .u64 (wd (n13 % (x * y)) 2 : Int), .int .u64 (wd (n13 % (x * y)) 3 : Int)] 51] w136 := H138
    have hS139 : Hp w [] [.blk p15 [.int .u64 (wd n13 0 : Int), .int .u64 (wd n13 1 : Int), .int .u64 (wd n13 2 : Int), .int .u64 (wd n13 3 : Int)] 51] w136 := H138.sub (List.Sublist.cons_cons _ (List.Sublist.cons _ (List.Sublist.cons _ (List.Sublist.slnil))))
    refine GP.semU 12 r137 [5, 16, 17, 37] [(5, .bool true), (16, .pointer (some ⟨p73, 0, none⟩)), (17, .pointer (some ⟨p105, 0, none⟩)), (37, .int .i64 0)] (by kernel_rfl) rfl rfl (by kernel_rfl) hS139 ?_
    refine GP.run [13] [5, 16, 17, 18] [(5, .bool true), (16, .pointer (some ⟨p73, 0, none⟩)), (17, .pointer (some ⟨p105, 0, none⟩)), (18, .int .i64 0)] [0, 1, 2, 3, 4, 5, 6, 7, 8, 9, 10, 11, 12, 13] (by kernel_rfl) rfl hS139 ?_
    refine GP.k (by kernel_rfl) hK23 (fun _ _ h => h) ?_
    refine G.seqK fun K140 hK141 => ?_
    refine G.seqK fun K142 hK143 => ?_
    refine G.region ?_
    refine GL.run (j := 2) 2 [5, 16, 17, 18, 39] [(5, .bool true), (16, .pointer (some ⟨p73, 0, none⟩)), (17, .pointer (some ⟨p105, 0, none⟩)), (18, .int .i64 0), (39, .bool false)] (by kernel_rfl) rfl ?_
    refine GL.k rfl hK143 (fun _ _ h => h) ?_
    refine G.no rfl ?_
    refine G.skipK hK141 (fun _ _ h => h) ?_
    refine G.seqK fun K144 hK145 => ?_
    refine G.seqK fun K146 hK147 => ?_
    refine G.region ?_
    refine GL.run (j := 2) 2 [16, 17, 42] [(16, .pointer (some ⟨p73, 0, none⟩)), (17, .pointer (some ⟨p105, 0, none⟩)), (42, .bool true)] (by kernel_rfl) rfl ?_
    refine GL.sem (j := 3) (H138.ldA (o := 0) (ty := 51) (m := 4) (sub := [.int .u64 (wd (n13 % (x * y)) 0 : Int), .int .u64 (wd (n13 % (x * y)) 1 : Int), .int .u64 (wd (n13 % (x * y)) 2 : Int), .int .u64 (wd (n13 % (x * y)) 3 : Int)]) 2 rfl (by kernel_rfl) rfl rfl) [16, 42, 43] [(16, .pointer (some ⟨p73, 0, none⟩)), (42, .bool true), (43, wv (n13 % (x * y)))] (by kernel_rfl) (by kernel_rfl) rfl ?_
    refine GL.run (j := 4) 1 [16, 42, 43, 44] [(16, .pointer (some ⟨p73, 0, none⟩)), (42, .bool true), (43, wv (n13 % (x * y))), (44, .agg #[.int .u64 0, .int .u64 0, .int .u64 0, .int .u64 0])] (by kernel_rfl) rfl ?_
    refine GL.sem (j := 5) (run_arr_neq (P := Try.prog) (t := 51) (n := 4) (k := .u64) (x := (.tmp 43)) (y := (.tmp 44)) (by kernel_rfl) [(wd (n13 % (x * y)) 0 : Int), (wd (n13 % (x * y)) 1 : Int), (wd (n13 % (x * y)) 2 : Int), (wd (n13 % (x * y)) 3 : Int)] [0, 0, 0, 0] rfl rfl _) [16, 42, 45] [(16, .pointer (some ⟨p73, 0, none⟩)), (42, .bool true), (45, .bool (!(decide (([(wd (n13 % (x * y)) 0 : Int), (wd (n13 % (x * y)) 1 : Int), (wd (n13 % (x * y)) 2 : Int), (wd (n13 % (x * y)) 3 : Int)] : List Int) = [0, 0, 0, 0]))))] (by kernel_rfl) (by kernel_rfl) rfl ?_
    refine GL.run (j := 6) 1 [16, 46] [(16, .pointer (some ⟨p73, 0, none⟩)), (46, .bool (!(decide (([(wd (n13 % (x * y)) 0 : Int), (wd (n13 % (x * y)) 1 : Int), (wd (n13 % (x * y)) 2 : Int), (wd (n13 % (x * y)) 3 : Int)] : List Int) = [0, 0, 0, 0]))))] (by kernel_rfl) rfl ?_
    refine GL.k rfl hK147 (fun _ _ h => h) ?_
    cases hb148 : (decide (([(wd (n13 % (x * y)) 0 : Int), (wd (n13 % (x * y)) 1 : Int), (wd (n13 % (x * y)) 2 : Int), (wd (n13 % (x * y)) 3 : Int)] : List Int) = [0, 0, 0, 0]))
    · skip
      have hb148f := of_decide_eq_false hb148
      have hr0 : (n13 % (x * y)) ≠ 0 := fun h => hb148f ((wv_eq (y := 0) (Nat.lt_of_le_of_lt (Nat.mod_le _ _) n13l) (by decide)).2 h)
      refine G.yes rfl ?_
      refine G.heldP (Hp w [] [.blk p15 [.int .u64 (wd n13 0 : Int), .int .u64 (wd n13 1 : Int), .int .u64 (wd n13 2 : Int), .int .u64 (wd n13 3 : Int)] 51, .blk p105 [.int .u64 (wd (n13 % (x * y)) 0 : Int), .int .u64 (wd (n13 % (x * y)) 1 : Int), .int .u64 (wd (n13 % (x * y)) 2 : Int), .int .u64 (wd (n13 % (x * y)) 3 : Int)] 51]) (by kernel_rfl) (by kernel_rfl) (fun c_ a_ d_ v_ w_ h_ => hPan c_ a_ d_ v_ w_ h_) ?_
      have H149 := H138.drew
      generalize ({ w136 with drawn := w136.drawn + 1 } : World) = w150 at H149 ⊢
      have hS151 : Hp w [] [.blk p15 [.int .u64 (wd n13 0 : Int), .int .u64 (wd n13 1 : Int), .int .u64 (wd n13 2 : Int), .int .u64 (wd n13 3 : Int)] 51, .blk p105 [.int .u64 (wd (n13 % (x * y)) 0 : Int), .int .u64 (wd (n13 % (x * y)) 1 : Int), .int .u64 (wd (n13 % (x * y)) 2 : Int), .int .u64 (wd (n13 % (x * y)) 3 : Int)] 51] w150 := H149.sub (List.Sublist.cons_cons _ (List.Sublist.cons _ (List.Sublist.cons_cons _ (List.Sublist.slnil))))
      refine GP.named fun X hX => ?_
      have st165 : ∀ (wD_ : World), Hp w [] [.blk p15 [.int .u64 (wd n13 0 : Int), .int .u64 (wd n13 1 : Int), .int .u64 (wd n13 2 : Int), .int .u64 (wd n13 3 : Int)] 51, .blk p73 [.int .u64 (wd (n13 / (x * y)) 0 : Int), .int .u64 (wd (n13 / (x * y)) 1 : Int), .int .u64 (wd (n13 / (x * y)) 2 : Int), .int .u64 (wd (n13 / (x * y)) 3 : Int)] 51, .blk p105 [.int .u64 (wd (n13 % (x * y)) 0 : Int), .int .u64 (wd (n13 % (x * y)) 1 : Int), .int .u64 (wd (n13 % (x * y)) 2 : Int), .int .u64 (wd (n13 % (x * y)) 3 : Int)] 51] wD_ → X [0, 1] [(16, .pointer (some ⟨p73, 0, none⟩)), (48, wv (n13 / (x * y))), (49, wv 1)] wD_ := by
        intro wD_ HD_
        rw [hX]
        have hS166 : Hp w [] [.blk p15 [.int .u64 (wd n13 0 : Int), .int .u64 (wd n13 1 : Int), .int .u64 (wd n13 2 : Int), .int .u64 (wd n13 3 : Int)] 51, .blk p105 [.int .u64 (wd (n13 % (x * y)) 0 : Int), .int .u64 (wd (n13 % (x * y)) 1 : Int), .int .u64 (wd (n13 % (x * y)) 2 : Int), .int .u64 (wd (n13 % (x * y)) 3 : Int)] 51] wD_ := HD_.sub (List.Sublist.cons_cons _ (List.Sublist.cons _ (List.Sublist.cons_cons _ (List.Sublist.slnil))))
        refine GP.call 2 (Add_calls (n13 / (x * y)) 1 (Nat.lt_of_le_of_lt (Nat.div_le_self _ _) n13l) (by decide) wD_) (by kernel_rfl) (by kernel_rfl) (fun e_ w167 hR => ?_)
        obtain ⟨he_, H169⟩ := hR
        obtain ⟨n170, hn171⟩ : ∃ v : Nat, v = ((n13 / (x * y)) + 1) % K4 := ⟨_, rfl⟩
        rw [← hn171] at he_
        have n170l : n170 < K4 := by rw [hn171]; exact Nat.mod_lt _ (by decide)
        subst he_
        have H168 : Hp w [] [.blk p15 [.int .u64 (wd n13 0 : Int), .int .u64 (wd n13 1 : Int), .int .u64 (wd n13 2 : Int), .int .u64 (wd n13 3 : Int)] 51, .blk p73 [.int .u64 (wd (n13 / (x * y)) 0 : Int), .int .u64 (wd (n13 / (x * y)) 1 : Int), .int .u64 (wd (n13 / (x * y)) 2 : Int), .int .u64 (wd (n13 / (x * y)) 3 : Int)] 51, .blk p105 [.int .u64 (wd (n13 % (x * y)) 0 : Int), .int .u64 (wd (n13 % (x * y)) 1 : Int), .int .u64 (wd (n13 % (x * y)) 2 : Int), .int .u64 (wd (n13 % (x * y)) 3 : Int)] 51] w167 := HD_.callNil H169
        have hS172 : Hp w [] [.blk p15 [.int .u64 (wd n13 0 : Int), .int .u64 (wd n13 1 : Int), .int .u64 (wd n13 2 : Int), .int .u64 (wd n13 3 : Int)] 51, .blk p105 [.int .u64 (wd (n13 % (x * y)) 0 : Int), .int .u64 (wd (n13 % (x * y)) 1 : Int), .int .u64 (wd (n13 % (x * y)) 2 : Int), .int .u64 (wd (n13 % (x * y)) 3 : Int)] 51] w167 := H168.sub (List.Sublist.cons_cons _ (List.Sublist.cons _ (List.Sublist.cons_cons _ (List.Sublist.slnil))))
        refine ⟨_, rfl, hS172, [16, 50], [(16, .pointer (some ⟨p73, 0, none⟩)), (50, .tuple #[wv n170, .bool (decide (K4 ≤ (n13 / (x * y)) + 1))])], by kernel_rfl, ?_⟩
        refine GP.run [3, 4, 5] [16, 51] [(16, .pointer (some ⟨p73, 0, none⟩)), (51, wv n170)] [0, 1, 2, 3, 4, 5] (by kernel_rfl) rfl hS172 ?_
        obtain ⟨w173, r174, H175⟩ := H168.stA (P := Try.prog) (o := 0) (vs := [.int .u64 (wd n170 0 : Int), .int .u64 (wd n170 1 : Int), .int .u64 (wd n170 2 : Int), .int .u64 (wd n170 3 : Int)]) (ty := 51) (m := 4) 1 rfl (by kernel_rfl) rfl (by simp) (by simp [Value.oneCell'])
        have H175 : Hp w [] [.blk p15 [.int .u64 (wd n13 0 : Int), .int .u64 (wd n13 1 : Int), .int .u64 (wd n13 2 : Int), .int .u64 (wd n13 3 : Int)] 51, .blk p73 [.int .u64 (wd n170 0 : Int), .int .u64 (wd n170 1 : Int), .int .u64 (wd n170 2 : Int), .int .u64 (wd n170 3 : Int)] 51, .blk p105 [.int .u64 (wd (n13 % (x * y)) 0 : Int), .int .u64 (wd (n13 % (x * y)) 1 : Int), .int .u64 (wd (n13 % (x * y)) 2 : Int), .int .u64 (wd (n13 % (x * y)) 3 : Int)] 51] w173 := H175
        have hS176 : Hp w [] [.blk p15 [.int .u64 (wd n13 0 : Int), .int .u64 (wd n13 1 : Int), .int .u64 (wd n13 2 : Int), .int .u64 (wd n13 3 : Int)] 51, .blk p105 [.int .u64 (wd (n13 % (x * y)) 0 : Int), .int .u64 (wd (n13 % (x * y)) 1 : Int), .int .u64 (wd (n13 % (x * y)) 2 : Int), .int .u64 (wd (n13 % (x * y)) 3 : Int)] 51] w173 := H175.sub (List.Sublist.cons_cons _ (List.Sublist.cons _ (List.Sublist.cons_cons _ (List.Sublist.slnil))))
        refine GP.semU 6 r174 [16] [(16, .pointer (some ⟨p73, 0, none⟩))] (by kernel_rfl) rfl rfl (by kernel_rfl) hS176 ?_
        refine GP.k (by kernel_rfl) hK145 (fun _ _ h => h) ?_
        refine G.seqK fun K177 hK178 => ?_
        refine G.region ?_
        refine GL.sem (j := 1) (H175.ldA (o := 0) (ty := 51) (m := 4) (sub := [.int .u64 (wd n170 0 : Int), .int .u64 (wd n170 1 : Int), .int .u64 (wd n170 2 : Int), .int .u64 (wd n170 3 : Int)]) 1 rfl (by kernel_rfl) rfl rfl) [54] [(54, wv n170)] (by kernel_rfl) (by kernel_rfl) rfl ?_
        refine GL.call (j := 2) (Uint_calls n170 n170l w173) (by kernel_rfl) rfl (fun e_ w179 hR => ?_)
        obtain ⟨he_, H181⟩ := hR
        subst he_
        have H180 : Hp w [] [.blk p15 [.int .u64 (wd n13 0 : Int), .int .u64 (wd n13 1 : Int), .int .u64 (wd n13 2 : Int), .int .u64 (wd n13 3 : Int)] 51, .blk p73 [.int .u64 (wd n170 0 : Int), .int .u64 (wd n170 1 : Int), .int .u64 (wd n170 2 : Int), .int .u64 (wd n170 3 : Int)] 51, .blk p105 [.int .u64 (wd (n13 % (x * y)) 0 : Int), .int .u64 (wd (n13 % (x * y)) 1 : Int), .int .u64 (wd (n13 % (x * y)) 2 : Int), .int .u64 (wd (n13 % (x * y)) 3 : Int)] 51] w179 := H175.callNil H181
        refine ⟨_, rfl, [55], [(55, .tuple #[.int .u64 (((oneW n170) : Nat) : Int), .bool (decide (n170 < K))])], by kernel_rfl, ?_⟩
        refine GL.run (j := 7) 5 [19, 20] [(19, .int .u64 (((oneW n170) : Nat) : Int)), (20, .bool (decide (n170 < K)))] (by kernel_rfl) rfl ?_
        refine GL.k rfl hK178 (fun _ _ h => h) ?_
        refine G.seqK fun K182 hK183 => ?_
        refine G.seqK fun K184 hK185 => ?_
        refine G.region ?_
        refine GL.run (j := 3) 3 [19, 60] [(19, .int .u64 (((oneW n170) : Nat) : Int)), (60, .bool (!(decide (n170 < K))))] (by kernel_rfl) rfl ?_
        cases hb186 : (decide (n170 < K))
        · skip
          have hb186f := of_decide_eq_false hb186
          refine GL.run (j := 7) 4 [19, 64] [(19, .int .u64 (((oneW n170) : Nat) : Int)), (64, .bool true)] (by kernel_rfl) rfl ?_
          refine GL.k rfl hK185 (fun _ _ h => h) ?_
          refine G.yes rfl ?_
          refine G.seqK fun K187 hK188 => ?_
          refine G.region ?_
          refine GL.run (j := 2) 2 [12, 13] [(12, .int .u64 0), (13, .int .i64 4)] (by kernel_rfl) rfl ?_
          refine GL.k rfl hK188 (fun _ _ h => h) ?_
          refine G.ret ?_
          intro F_ hF_ hM_
          refine hRet _ _ (bodyPost_2 rfl (RV.tmp rfl) (RV.tmp rfl) ?_ F_ hF_ hM_)
          have h2 : n13 = a * b * c := by rw [hn14, hn9, Nat.mod_eq_of_lt (show a * b * c < K4 by omega)]
          have hX : divQ (a * b * c) (x * y) true = n170 := by rw [divQ_one (by rw [← h2]; exact hr0), hn171, h2]; exact (Nat.mod_eq_of_lt (by have := Nat.div_le_self (a * b * c) (x * y); omega)).symm
          have c0 := oneW_cases n170
          obtain ⟨e1, e2⟩ := div_over hX (by omega)
          rw [divE, e1, e2]
          exact ⟨rfl, H180.sub (List.nil_sublist _)⟩
        · skip
          have hb186f := of_decide_eq_true hb186
          refine GL.run (j := 4) 1 [19, 60, 61] [(19, .int .u64 (((oneW n170) : Nat) : Int)), (60, .bool false), (61, .int .u64 (((oneW n170) : Nat) : Int))] (by kernel_rfl) rfl ?_
          refine GL.call (j := 5) (Right_calls (oneW n170) w179) (by kernel_rfl) rfl (fun e_ w189 hR => ?_)
          obtain ⟨rfl, H191⟩ := hR
          have H190 : Hp w [] [.blk p15 [.int .u64 (wd n13 0 : Int), .int .u64 (wd n13 1 : Int), .int .u64 (wd n13 2 : Int), .int .u64 (wd n13 3 : Int)] 51, .blk p73 [.int .u64 (wd n170 0 : Int), .int .u64 (wd n170 1 : Int), .int .u64 (wd n170 2 : Int), .int .u64 (wd n170 3 : Int)] 51, .blk p105 [.int .u64 (wd (n13 % (x * y)) 0 : Int), .int .u64 (wd (n13 % (x * y)) 1 : Int), .int .u64 (wd (n13 % (x * y)) 2 : Int), .int .u64 (wd (n13 % (x * y)) 3 : Int)] 51] w189 := H180.callNil H191
          refine ⟨_, rfl, [19, 60, 62], [(19, .int .u64 (((oneW n170) : Nat) : Int)), (60, .bool false), (62, .bool (decide (((oneW n170) : Int) ≤ 4611686018427387904)))], by kernel_rfl, ?_⟩
          refine GL.run (j := 7) 2 [19, 64] [(19, .int .u64 (((oneW n170) : Nat) : Int)), (64, .bool (!(decide (((oneW n170) : Int) ≤ 4611686018427387904))))] (by kernel_rfl) rfl ?_
          refine GL.k rfl hK185 (fun _ _ h => h) ?_
          cases hb192 : (decide (((oneW n170) : Int) ≤ 4611686018427387904))
          · skip
            have hb192f := of_decide_eq_false hb192
            refine G.yes rfl ?_
            refine G.seqK fun K193 hK194 => ?_
            refine G.region ?_
            refine GL.run (j := 2) 2 [12, 13] [(12, .int .u64 0), (13, .int .i64 4)] (by kernel_rfl) rfl ?_
            refine GL.k rfl hK194 (fun _ _ h => h) ?_
            refine G.ret ?_
            intro F_ hF_ hM_
            refine hRet _ _ (bodyPost_2 rfl (RV.tmp rfl) (RV.tmp rfl) ?_ F_ hF_ hM_)
            have h2 : n13 = a * b * c := by rw [hn14, hn9, Nat.mod_eq_of_lt (show a * b * c < K4 by omega)]
            have hX : divQ (a * b * c) (x * y) true = n170 := by rw [divQ_one (by rw [← h2]; exact hr0), hn171, h2]; exact (Nat.mod_eq_of_lt (by have := Nat.div_le_self (a * b * c) (x * y); omega)).symm
            have c0 := oneW_cases n170
            obtain ⟨e1, e2⟩ := div_over hX (by omega)
            rw [divE, e1, e2]
            exact ⟨rfl, H190.sub (List.nil_sublist _)⟩
          · skip
            have hb192f := of_decide_eq_true hb192
            refine G.no rfl ?_
            refine G.skipK hK183 (fun _ _ h => h) ?_
            refine G.seqK fun K195 hK196 => ?_
            refine G.region ?_
            refine GL.run (j := 3) 3 [12, 13] [(12, .int .u64 (((oneW n170) : Nat) : Int)), (13, .int .i64 0)] (by kernel_rfl) rfl ?_
            refine GL.k rfl hK196 (fun _ _ h => h) ?_
            refine G.ret ?_
            intro F_ hF_ hM_
            refine hRet _ _ (bodyPost_2 rfl (RV.tmp rfl) (RV.tmp rfl) ?_ F_ hF_ hM_)
            have h2 : n13 = a * b * c := by rw [hn14, hn9, Nat.mod_eq_of_lt (show a * b * c < K4 by omega)]
            have hX : divQ (a * b * c) (x * y) true = n170 := by rw [divQ_one (by rw [← h2]; exact hr0), hn171, h2]; exact (Nat.mod_eq_of_lt (by have := Nat.div_le_self (a * b * c) (x * y); omega)).symm
            have c0 := oneW_cases n170
            obtain ⟨e1, e2⟩ := div_fits hX (by omega)
            rw [divE, e1, e2, show oneW n170 = n170 by omega]
            exact ⟨rfl, H190.sub (List.nil_sublist _)⟩
      have st163 : ∀ (wD_ : World), Hp w [] [.blk p15 [.int .u64 (wd n13 0 : Int), .int .u64 (wd n13 1 : Int), .int .u64 (wd n13 2 : Int), .int .u64 (wd n13 3 : Int)] 51, .blk p73 [.int .u64 (wd (n13 / (x * y)) 0 : Int), .int .u64 (wd (n13 / (x * y)) 1 : Int), .int .u64 (wd (n13 / (x * y)) 2 : Int), .int .u64 (wd (n13 / (x * y)) 3 : Int)] 51, .blk p105 [.int .u64 (wd (n13 % (x * y)) 0 : Int), .int .u64 (wd (n13 % (x * y)) 1 : Int), .int .u64 (wd (n13 % (x * y)) 2 : Int), .int .u64 (wd (n13 % (x * y)) 3 : Int)] 51] wD_ → X [0] [(16, .pointer (some ⟨p73, 0, none⟩)), (48, wv (n13 / (x * y)))] wD_ := by
        intro wD_ HD_
        rw [hX]
        have hS197 : Hp w [] [.blk p15 [.int .u64 (wd n13 0 : Int), .int .u64 (wd n13 1 : Int), .int .u64 (wd n13 2 : Int), .int .u64 (wd n13 3 : Int)] 51, .blk p105 [.int .u64 (wd (n13 % (x * y)) 0 : Int), .int .u64 (wd (n13 % (x * y)) 1 : Int), .int .u64 (wd (n13 % (x * y)) 2 : Int), .int .u64 (wd (n13 % (x * y)) 3 : Int)] 51] wD_ := HD_.sub (List.Sublist.cons_cons _ (List.Sublist.cons _ (List.Sublist.cons_cons _ (List.Sublist.slnil))))
        refine GP.all1 1 (by kernel_rfl) ?_
        · skip
          have hS198 : Hp w [] [.blk p15 [.int .u64 (wd n13 0 : Int), .int .u64 (wd n13 1 : Int), .int .u64 (wd n13 2 : Int), .int .u64 (wd n13 3 : Int)] 51, .blk p105 [.int .u64 (wd (n13 % (x * y)) 0 : Int), .int .u64 (wd (n13 % (x * y)) 1 : Int), .int .u64 (wd (n13 % (x * y)) 2 : Int), .int .u64 (wd (n13 % (x * y)) 3 : Int)] 51] wD_ := HD_.sub (List.Sublist.cons_cons _ (List.Sublist.cons _ (List.Sublist.cons_cons _ (List.Sublist.slnil))))
          refine GO.call (Of_calls 1 (by decide) wD_) (by kernel_rfl) (fun e_ w199 hR => ?_)
          obtain ⟨rfl, H201⟩ := hR
          have H200 : Hp w [] [.blk p15 [.int .u64 (wd n13 0 : Int), .int .u64 (wd n13 1 : Int), .int .u64 (wd n13 2 : Int), .int .u64 (wd n13 3 : Int)] 51, .blk p73 [.int .u64 (wd (n13 / (x * y)) 0 : Int), .int .u64 (wd (n13 / (x * y)) 1 : Int), .int .u64 (wd (n13 / (x * y)) 2 : Int), .int .u64 (wd (n13 / (x * y)) 3 : Int)] 51, .blk p105 [.int .u64 (wd (n13 % (x * y)) 0 : Int), .int .u64 (wd (n13 % (x * y)) 1 : Int), .int .u64 (wd (n13 % (x * y)) 2 : Int), .int .u64 (wd (n13 % (x * y)) 3 : Int)] 51] w199 := HD_.callNil H201
          have hS202 : Hp w [] [.blk p15 [.int .u64 (wd n13 0 : Int), .int .u64 (wd n13 1 : Int), .int .u64 (wd n13 2 : Int), .int .u64 (wd n13 3 : Int)] 51, .blk p105 [.int .u64 (wd (n13 % (x * y)) 0 : Int), .int .u64 (wd (n13 % (x * y)) 1 : Int), .int .u64 (wd (n13 % (x * y)) 2 : Int), .int .u64 (wd (n13 % (x * y)) 3 : Int)] 51] w199 := H200.sub (List.Sublist.cons_cons _ (List.Sublist.cons _ (List.Sublist.cons_cons _ (List.Sublist.slnil))))
          refine ⟨_, rfl, hS202, [16, 48, 49], [(16, .pointer (some ⟨p73, 0, none⟩)), (48, wv (n13 / (x * y))), (49, wv 1)], by kernel_rfl, ?_⟩
          refine GP.perm [0, 1] (by kernel_rfl) rfl ?_
          rw [← hX]
          exact st165 _ H200
      have st164 : ∀ (wD_ : World), Hp w [] [.blk p15 [.int .u64 (wd n13 0 : Int), .int .u64 (wd n13 1 : Int), .int .u64 (wd n13 2 : Int), .int .u64 (wd n13 3 : Int)] 51, .blk p73 [.int .u64 (wd (n13 / (x * y)) 0 : Int), .int .u64 (wd (n13 / (x * y)) 1 : Int), .int .u64 (wd (n13 / (x * y)) 2 : Int), .int .u64 (wd (n13 / (x * y)) 3 : Int)] 51, .blk p105 [.int .u64 (wd (n13 % (x * y)) 0 : Int), .int .u64 (wd (n13 % (x * y)) 1 : Int), .int .u64 (wd (n13 % (x * y)) 2 : Int), .int .u64 (wd (n13 % (x * y)) 3 : Int)] 51] wD_ → X [1] [(16, .pointer (some ⟨p73, 0, none⟩)), (49, wv 1)] wD_ := by
        intro wD_ HD_
        rw [hX]
        have hS203 : Hp w [] [.blk p15 [.int .u64 (wd n13 0 : Int), .int .u64 (wd n13 1 : Int), .int .u64 (wd n13 2 : Int), .int .u64 (wd n13 3 : Int)] 51, .blk p105 [.int .u64 (wd (n13 % (x * y)) 0 : Int), .int .u64 (wd (n13 % (x * y)) 1 : Int), .int .u64 (wd (n13 % (x * y)) 2 : Int), .int .u64 (wd (n13 % (x * y)) 3 : Int)] 51] wD_ := HD_.sub (List.Sublist.cons_cons _ (List.Sublist.cons _ (List.Sublist.cons_cons _ (List.Sublist.slnil))))
        refine GP.all1 0 (by kernel_rfl) ?_
        · skip
          have hS204 : Hp w [] [.blk p15 [.int .u64 (wd n13 0 : Int), .int .u64 (wd n13 1 : Int), .int .u64 (wd n13 2 : Int), .int .u64 (wd n13 3 : Int)] 51, .blk p105 [.int .u64 (wd (n13 % (x * y)) 0 : Int), .int .u64 (wd (n13 % (x * y)) 1 : Int), .int .u64 (wd (n13 % (x * y)) 2 : Int), .int .u64 (wd (n13 % (x * y)) 3 : Int)] 51] wD_ := HD_.sub (List.Sublist.cons_cons _ (List.Sublist.cons _ (List.Sublist.cons_cons _ (List.Sublist.slnil))))
          have hS205 : Hp w [] [.blk p15 [.int .u64 (wd n13 0 : Int), .int .u64 (wd n13 1 : Int), .int .u64 (wd n13 2 : Int), .int .u64 (wd n13 3 : Int)] 51, .blk p105 [.int .u64 (wd (n13 % (x * y)) 0 : Int), .int .u64 (wd (n13 % (x * y)) 1 : Int), .int .u64 (wd (n13 % (x * y)) 2 : Int), .int .u64 (wd (n13 % (x * y)) 3 : Int)] 51] wD_ := HD_.sub (List.Sublist.cons_cons _ (List.Sublist.cons _ (List.Sublist.cons_cons _ (List.Sublist.slnil))))
          refine GO.made (HD_.ldA (o := 0) (ty := 51) (m := 4) (sub := [.int .u64 (wd (n13 / (x * y)) 0 : Int), .int .u64 (wd (n13 / (x * y)) 1 : Int), .int .u64 (wd (n13 / (x * y)) 2 : Int), .int .u64 (wd (n13 / (x * y)) 3 : Int)]) 1 rfl (by kernel_rfl) rfl rfl) [16, 48, 49] [(16, .pointer (some ⟨p73, 0, none⟩)), (48, wv (n13 / (x * y))), (49, wv 1)] (by kernel_rfl) (by kernel_rfl) hS205 ?_
          refine GP.perm [0, 1] (by kernel_rfl) rfl ?_
          rw [← hX]
          exact st165 _ HD_
      have st162 : ∀ (wD_ : World), Hp w [] [.blk p15 [.int .u64 (wd n13 0 : Int), .int .u64 (wd n13 1 : Int), .int .u64 (wd n13 2 : Int), .int .u64 (wd n13 3 : Int)] 51, .blk p73 [.int .u64 (wd (n13 / (x * y)) 0 : Int), .int .u64 (wd (n13 / (x * y)) 1 : Int), .int .u64 (wd (n13 / (x * y)) 2 : Int), .int .u64 (wd (n13 / (x * y)) 3 : Int)] 51, .blk p105 [.int .u64 (wd (n13 % (x * y)) 0 : Int), .int .u64 (wd (n13 % (x * y)) 1 : Int), .int .u64 (wd (n13 % (x * y)) 2 : Int), .int .u64 (wd (n13 % (x * y)) 3 : Int)] 51] wD_ → X [] [(16, .pointer (some ⟨p73, 0, none⟩)), (46, .bool true)] wD_ := by
        intro wD_ HD_
        rw [hX]
        have hS206 : Hp w [] [.blk p15 [.int .u64 (wd n13 0 : Int), .int .u64 (wd n13 1 : Int), .int .u64 (wd n13 2 : Int), .int .u64 (wd n13 3 : Int)] 51, .blk p105 [.int .u64 (wd (n13 % (x * y)) 0 : Int), .int .u64 (wd (n13 % (x * y)) 1 : Int), .int .u64 (wd (n13 % (x * y)) 2 : Int), .int .u64 (wd (n13 % (x * y)) 3 : Int)] 51] wD_ := HD_.sub (List.Sublist.cons_cons _ (List.Sublist.cons _ (List.Sublist.cons_cons _ (List.Sublist.slnil))))
        refine GP.all2 0 1 (by kernel_rfl) ?_ ?_
        · skip
          have hS207 : Hp w [] [.blk p15 [.int .u64 (wd n13 0 : Int), .int .u64 (wd n13 1 : Int), .int .u64 (wd n13 2 : Int), .int .u64 (wd n13 3 : Int)] 51, .blk p105 [.int .u64 (wd (n13 % (x * y)) 0 : Int), .int .u64 (wd (n13 % (x * y)) 1 : Int), .int .u64 (wd (n13 % (x * y)) 2 : Int), .int .u64 (wd (n13 % (x * y)) 3 : Int)] 51] wD_ := HD_.sub (List.Sublist.cons_cons _ (List.Sublist.cons _ (List.Sublist.cons_cons _ (List.Sublist.slnil))))
          have hS208 : Hp w [] [.blk p15 [.int .u64 (wd n13 0 : Int), .int .u64 (wd n13 1 : Int), .int .u64 (wd n13 2 : Int), .int .u64 (wd n13 3 : Int)] 51, .blk p105 [.int .u64 (wd (n13 % (x * y)) 0 : Int), .int .u64 (wd (n13 % (x * y)) 1 : Int), .int .u64 (wd (n13 % (x * y)) 2 : Int), .int .u64 (wd (n13 % (x * y)) 3 : Int)] 51] wD_ := HD_.sub (List.Sublist.cons_cons _ (List.Sublist.cons _ (List.Sublist.cons_cons _ (List.Sublist.slnil))))
          refine GO.made (HD_.ldA (o := 0) (ty := 51) (m := 4) (sub := [.int .u64 (wd (n13 / (x * y)) 0 : Int), .int .u64 (wd (n13 / (x * y)) 1 : Int), .int .u64 (wd (n13 / (x * y)) 2 : Int), .int .u64 (wd (n13 / (x * y)) 3 : Int)]) 1 rfl (by kernel_rfl) rfl rfl) [16, 48] [(16, .pointer (some ⟨p73, 0, none⟩)), (48, wv (n13 / (x * y)))] (by kernel_rfl) (by kernel_rfl) hS208 ?_
          refine GP.perm [0] (by kernel_rfl) rfl ?_
          rw [← hX]
          exact st163 _ HD_
        · skip
          have hS209 : Hp w [] [.blk p15 [.int .u64 (wd n13 0 : Int), .int .u64 (wd n13 1 : Int), .int .u64 (wd n13 2 : Int), .int .u64 (wd n13 3 : Int)] 51, .blk p105 [.int .u64 (wd (n13 % (x * y)) 0 : Int), .int .u64 (wd (n13 % (x * y)) 1 : Int), .int .u64 (wd (n13 % (x * y)) 2 : Int), .int .u64 (wd (n13 % (x * y)) 3 : Int)] 51] wD_ := HD_.sub (List.Sublist.cons_cons _ (List.Sublist.cons _ (List.Sublist.cons_cons _ (List.Sublist.slnil))))
          refine GO.call (Of_calls 1 (by decide) wD_) (by kernel_rfl) (fun e_ w210 hR => ?_)
          obtain ⟨rfl, H212⟩ := hR
          have H211 : Hp w [] [.blk p15 [.int .u64 (wd n13 0 : Int), .int .u64 (wd n13 1 : Int), .int .u64 (wd n13 2 : Int), .int .u64 (wd n13 3 : Int)] 51, .blk p73 [.int .u64 (wd (n13 / (x * y)) 0 : Int), .int .u64 (wd (n13 / (x * y)) 1 : Int), .int .u64 (wd (n13 / (x * y)) 2 : Int), .int .u64 (wd (n13 / (x * y)) 3 : Int)] 51, .blk p105 [.int .u64 (wd (n13 % (x * y)) 0 : Int), .int .u64 (wd (n13 % (x * y)) 1 : Int), .int .u64 (wd (n13 % (x * y)) 2 : Int), .int .u64 (wd (n13 % (x * y)) 3 : Int)] 51] w210 := HD_.callNil H212
          have hS213 : Hp w [] [.blk p15 [.int .u64 (wd n13 0 : Int), .int .u64 (wd n13 1 : Int), .int .u64 (wd n13 2 : Int), .int .u64 (wd n13 3 : Int)] 51, .blk p105 [.int .u64 (wd (n13 % (x * y)) 0 : Int), .int .u64 (wd (n13 % (x * y)) 1 : Int), .int .u64 (wd (n13 % (x * y)) 2 : Int), .int .u64 (wd (n13 % (x * y)) 3 : Int)] 51] w210 := H211.sub (List.Sublist.cons_cons _ (List.Sublist.cons _ (List.Sublist.cons_cons _ (List.Sublist.slnil))))
          refine ⟨_, rfl, hS213, [16, 49], [(16, .pointer (some ⟨p73, 0, none⟩)), (49, wv 1)], by kernel_rfl, ?_⟩
          refine GP.perm [1] (by kernel_rfl) rfl ?_
          rw [← hX]
          exact st164 _ H211
      exact st162 _ H149
    · skip
      have hb148f := of_decide_eq_true hb148
      have hr0 : (n13 % (x * y)) = 0 := (wv_eq (y := 0) (Nat.lt_of_le_of_lt (Nat.mod_le _ _) n13l) (by decide)).1 hb148f
      refine G.no rfl ?_
      refine G.skipK hK145 (fun _ _ h => h) ?_
      refine G.seqK fun K214 hK215 => ?_
      refine G.region ?_
      refine GL.sem (j := 1) (H138.ldA (o := 0) (ty := 51) (m := 4) (sub := [.int .u64 (wd (n13 / (x * y)) 0 : Int), .int .u64 (wd (n13 / (x * y)) 1 : Int), .int .u64 (wd (n13 / (x * y)) 2 : Int), .int .u64 (wd (n13 / (x * y)) 3 : Int)]) 1 rfl (by kernel_rfl) rfl rfl) [54] [(54, wv (n13 / (x * y)))] (by kernel_rfl) (by kernel_rfl) rfl ?_
      refine GL.call (j := 2) (Uint_calls (n13 / (x * y)) (Nat.lt_of_le_of_lt (Nat.div_le_self _ _) n13l) w136) (by kernel_rfl) rfl (fun e_ w216 hR => ?_)
      obtain ⟨he_, H218⟩ := hR
      subst he_
      have H217 : Hp w [] [.blk p15 [.int .u64 (wd n13 0 : Int), .int .u64 (wd n13 1 : Int), .int .u64 (wd n13 2 : Int), .int .u64 (wd n13 3 : Int)] 51, .blk p73 [.int .u64 (wd (n13 / (x * y)) 0 : Int), .int .u64 (wd (n13 / (x * y)) 1 : Int), .int .u64 (wd (n13 / (x * y)) 2 : Int), .int .u64 (wd (n13 / (x * y)) 3 : Int)] 51, .blk p105 [.int .u64 (wd (n13 % (x * y)) 0 : Int), .int .u64 (wd (n13 % (x * y)) 1 : Int), .int .u64 (wd (n13 % (x * y)) 2 : Int), .int .u64 (wd (n13 % (x * y)) 3 : Int)] 51] w216 := H138.callNil H218
      refine ⟨_, rfl, [55], [(55, .tuple #[.int .u64 (((oneW (n13 / (x * y))) : Nat) : Int), .bool (decide ((n13 / (x * y)) < K))])], by kernel_rfl, ?_⟩
      refine GL.run (j := 7) 5 [19, 20] [(19, .int .u64 (((oneW (n13 / (x * y))) : Nat) : Int)), (20, .bool (decide ((n13 / (x * y)) < K)))] (by kernel_rfl) rfl ?_
      refine GL.k rfl hK215 (fun _ _ h => h) ?_
      refine G.seqK fun K219 hK220 => ?_
      refine G.seqK fun K221 hK222 => ?_
      refine G.region ?_
      refine GL.run (j := 3) 3 [19, 60] [(19, .int .u64 (((oneW (n13 / (x * y))) : Nat) : Int)), (60, .bool (!(decide ((n13 / (x * y)) < K))))] (by kernel_rfl) rfl ?_
      cases hb223 : (decide ((n13 / (x * y)) < K))
      · skip
        have hb223f := of_decide_eq_false hb223
        refine GL.run (j := 7) 4 [19, 64] [(19, .int .u64 (((oneW (n13 / (x * y))) : Nat) : Int)), (64, .bool true)] (by kernel_rfl) rfl ?_
        refine GL.k rfl hK222 (fun _ _ h => h) ?_
        refine G.yes rfl ?_
        refine G.seqK fun K224 hK225 => ?_
        refine G.region ?_
        refine GL.run (j := 2) 2 [12, 13] [(12, .int .u64 0), (13, .int .i64 4)] (by kernel_rfl) rfl ?_
        refine GL.k rfl hK225 (fun _ _ h => h) ?_
        refine G.ret ?_
        intro F_ hF_ hM_
        refine hRet _ _ (bodyPost_2 rfl (RV.tmp rfl) (RV.tmp rfl) ?_ F_ hF_ hM_)
        have h2 : n13 = a * b * c := by rw [hn14, hn9, Nat.mod_eq_of_lt (show a * b * c < K4 by omega)]
        have hX : divQ (a * b * c) (x * y) true = (n13 / (x * y)) := by rw [divQ_none (by rw [← h2]; exact hr0), h2]
        have c0 := oneW_cases (n13 / (x * y))
        obtain ⟨e1, e2⟩ := div_over hX (by omega)
        rw [divE, e1, e2]
        exact ⟨rfl, H217.sub (List.nil_sublist _)⟩
      · skip
        have hb223f := of_decide_eq_true hb223
        refine GL.run (j := 4) 1 [19, 60, 61] [(19, .int .u64 (((oneW (n13 / (x * y))) : Nat) : Int)), (60, .bool false), (61, .int .u64 (((oneW (n13 / (x * y))) : Nat) : Int))] (by kernel_rfl) rfl ?_
        refine GL.call (j := 5) (Right_calls (oneW (n13 / (x * y))) w216) (by kernel_rfl) rfl (fun e_ w226 hR => ?_)
        obtain ⟨rfl, H228⟩ := hR
        have H227 : Hp w [] [.blk p15 [.int .u64 (wd n13 0 : Int), .int .u64 (wd n13 1 : Int), .int .u64 (wd n13 2 : Int), .int .u64 (wd n13 3 : Int)] 51, .blk p73 [.int .u64 (wd (n13 / (x * y)) 0 : Int), .int .u64 (wd (n13 / (x * y)) 1 : Int), .int .u64 (wd (n13 / (x * y)) 2 : Int), .int .u64 (wd (n13 / (x * y)) 3 : Int)] 51, .blk p105 [.int .u64 (wd (n13 % (x * y)) 0 : Int), .int .u64 (wd (n13 % (x * y)) 1 : Int), .int .u64 (wd (n13 % (x * y)) 2 : Int), .int .u64 (wd (n13 % (x * y)) 3 : Int)] 51] w226 := H217.callNil H228
        refine ⟨_, rfl, [19, 60, 62], [(19, .int .u64 (((oneW (n13 / (x * y))) : Nat) : Int)), (60, .bool false), (62, .bool (decide (((oneW (n13 / (x * y))) : Int) ≤ 4611686018427387904)))], by kernel_rfl, ?_⟩
        refine GL.run (j := 7) 2 [19, 64] [(19, .int .u64 (((oneW (n13 / (x * y))) : Nat) : Int)), (64, .bool (!(decide (((oneW (n13 / (x * y))) : Int) ≤ 4611686018427387904))))] (by kernel_rfl) rfl ?_
        refine GL.k rfl hK222 (fun _ _ h => h) ?_
        cases hb229 : (decide (((oneW (n13 / (x * y))) : Int) ≤ 4611686018427387904))
        · skip
          have hb229f := of_decide_eq_false hb229
          refine G.yes rfl ?_
          refine G.seqK fun K230 hK231 => ?_
          refine G.region ?_
          refine GL.run (j := 2) 2 [12, 13] [(12, .int .u64 0), (13, .int .i64 4)] (by kernel_rfl) rfl ?_
          refine GL.k rfl hK231 (fun _ _ h => h) ?_
          refine G.ret ?_
          intro F_ hF_ hM_
          refine hRet _ _ (bodyPost_2 rfl (RV.tmp rfl) (RV.tmp rfl) ?_ F_ hF_ hM_)
          have h2 : n13 = a * b * c := by rw [hn14, hn9, Nat.mod_eq_of_lt (show a * b * c < K4 by omega)]
          have hX : divQ (a * b * c) (x * y) true = (n13 / (x * y)) := by rw [divQ_none (by rw [← h2]; exact hr0), h2]
          have c0 := oneW_cases (n13 / (x * y))
          obtain ⟨e1, e2⟩ := div_over hX (by omega)
          rw [divE, e1, e2]
          exact ⟨rfl, H227.sub (List.nil_sublist _)⟩
        · skip
          have hb229f := of_decide_eq_true hb229
          refine G.no rfl ?_
          refine G.skipK hK220 (fun _ _ h => h) ?_
          refine G.seqK fun K232 hK233 => ?_
          refine G.region ?_
          refine GL.run (j := 3) 3 [12, 13] [(12, .int .u64 (((oneW (n13 / (x * y))) : Nat) : Int)), (13, .int .i64 0)] (by kernel_rfl) rfl ?_
          refine GL.k rfl hK233 (fun _ _ h => h) ?_
          refine G.ret ?_
          intro F_ hF_ hM_
          refine hRet _ _ (bodyPost_2 rfl (RV.tmp rfl) (RV.tmp rfl) ?_ F_ hF_ hM_)
          have h2 : n13 = a * b * c := by rw [hn14, hn9, Nat.mod_eq_of_lt (show a * b * c < K4 by omega)]
          have hX : divQ (a * b * c) (x * y) true = (n13 / (x * y)) := by rw [divQ_none (by rw [← h2]; exact hr0), h2]
          have c0 := oneW_cases (n13 / (x * y))
          obtain ⟨e1, e2⟩ := div_fits hX (by omega)
          rw [divE, e1, e2, show oneW (n13 / (x * y)) = (n13 / (x * y)) by omega]
          exact ⟨rfl, H227.sub (List.nil_sublist _)⟩
  have st127 : ∀ (wD_ : World) (p73 : Nat), Hp w [] [.blk p15 [.int .u64 (wd n13 0 : Int), .int .u64 (wd n13 1 : Int), .int .u64 (wd n13 2 : Int), .int .u64 (wd n13 3 : Int)] 51, .blk p73 [.int .u64 0, .int .u64 0, .int .u64 0, .int .u64 0] 51] wD_ → X [0, 1, 2, 3, 4, 5, 6, 7, 8, 9] [(5, .bool true), (16, .pointer (some ⟨p73, 0, none⟩)), (35, wv (n13 / (x * y))), (36, wv (n13 % (x * y))), (37, .int .i64 0)] wD_ := by
    intro wD_ p73 HD_
    rw [hX]
    have hS234 : Hp w [] [.blk p15 [.int .u64 (wd n13 0 : Int), .int .u64 (wd n13 1 : Int), .int .u64 (wd n13 2 : Int), .int .u64 (wd n13 3 : Int)] 51] wD_ := HD_.sub (List.Sublist.cons_cons _ (List.Sublist.cons _ (List.Sublist.slnil)))
    refine GP.all1 10 (by kernel_rfl) ?_
    · skip
      have hS235 : Hp w [] [.blk p15 [.int .u64 (wd n13 0 : Int), .int .u64 (wd n13 1 : Int), .int .u64 (wd n13 2 : Int), .int .u64 (wd n13 3 : Int)] 51] wD_ := HD_.sub (List.Sublist.cons_cons _ (List.Sublist.cons _ (List.Sublist.slnil)))
      obtain ⟨p236, w237, r238, H239⟩ := HD_.alloc (P := Try.prog) 51 [.int .u64 0, .int .u64 0, .int .u64 0, .int .u64 0] (by kernel_rfl)
      have H239 : Hp w [] [.blk p15 [.int .u64 (wd n13 0 : Int), .int .u64 (wd n13 1 : Int), .int .u64 (wd n13 2 : Int), .int .u64 (wd n13 3 : Int)] 51, .blk p73 [.int .u64 0, .int .u64 0, .int .u64 0, .int .u64 0] 51, .blk p236 [.int .u64 0, .int .u64 0, .int .u64 0, .int .u64 0] 51] w237 := H239
      have hS240 : Hp w [] [.blk p15 [.int .u64 (wd n13 0 : Int), .int .u64 (wd n13 1 : Int), .int .u64 (wd n13 2 : Int), .int .u64 (wd n13 3 : Int)] 51] w237 := H239.sub (List.Sublist.cons_cons _ (List.Sublist.cons _ (List.Sublist.cons _ (List.Sublist.slnil))))
      refine GO.made r238 [5, 16, 17, 35, 36, 37] [(5, .bool true), (16, .pointer (some ⟨p73, 0, none⟩)), (17, .pointer (some ⟨p236, 0, none⟩)), (35, wv (n13 / (x * y))), (36, wv (n13 % (x * y))), (37, .int .i64 0)] (by kernel_rfl) (by kernel_rfl) hS240 ?_
      refine GP.perm [0, 1, 2, 3, 4, 5, 6, 7, 8, 9, 10] (by kernel_rfl) rfl ?_
      rw [← hX]
      exact st130 _ p73 p236 H239
  have st128 : ∀ (wD_ : World) (p78 : Nat), Hp w [] [.blk p15 [.int .u64 (wd n13 0 : Int), .int .u64 (wd n13 1 : Int), .int .u64 (wd n13 2 : Int), .int .u64 (wd n13 3 : Int)] 51, .blk p78 [.int .u64 0, .int .u64 0, .int .u64 0, .int .u64 0] 51] wD_ → X [0, 1, 2, 3, 4, 5, 6, 7, 8, 10] [(5, .bool true), (17, .pointer (some ⟨p78, 0, none⟩)), (35, wv (n13 / (x * y))), (36, wv (n13 % (x * y))), (37, .int .i64 0)] wD_ := by
    intro wD_ p78 HD_
    rw [hX]
    have hS241 : Hp w [] [.blk p15 [.int .u64 (wd n13 0 : Int), .int .u64 (wd n13 1 : Int), .int .u64 (wd n13 2 : Int), .int .u64 (wd n13 3 : Int)] 51] wD_ := HD_.sub (List.Sublist.cons_cons _ (List.Sublist.cons _ (List.Sublist.slnil)))
    refine GP.all1 9 (by kernel_rfl) ?_
    · skip
      have hS242 : Hp w [] [.blk p15 [.int .u64 (wd n13 0 : Int), .int .u64 (wd n13 1 : Int), .int .u64 (wd n13 2 : Int), .int .u64 (wd n13 3 : Int)] 51] wD_ := HD_.sub (List.Sublist.cons_cons _ (List.Sublist.cons _ (List.Sublist.slnil)))
      obtain ⟨p243, w244, r245, H246⟩ := HD_.alloc (P := Try.prog) 51 [.int .u64 0, .int .u64 0, .int .u64 0, .int .u64 0] (by kernel_rfl)
      have H246 : Hp w [] [.blk p15 [.int .u64 (wd n13 0 : Int), .int .u64 (wd n13 1 : Int), .int .u64 (wd n13 2 : Int), .int .u64 (wd n13 3 : Int)] 51, .blk p78 [.int .u64 0, .int .u64 0, .int .u64 0, .int .u64 0] 51, .blk p243 [.int .u64 0, .int .u64 0, .int .u64 0, .int .u64 0] 51] w244 := H246
      have hS247 : Hp w [] [.blk p15 [.int .u64 (wd n13 0 : Int), .int .u64 (wd n13 1 : Int), .int .u64 (wd n13 2 : Int), .int .u64 (wd n13 3 : Int)] 51] w244 := H246.sub (List.Sublist.cons_cons _ (List.Sublist.cons _ (List.Sublist.cons _ (List.Sublist.slnil))))
      refine GO.made r245 [5, 16, 17, 35, 36, 37] [(5, .bool true), (16, .pointer (some ⟨p243, 0, none⟩)), (17, .pointer (some ⟨p78, 0, none⟩)), (35, wv (n13 / (x * y))), (36, wv (n13 % (x * y))), (37, .int .i64 0)] (by kernel_rfl) (by kernel_rfl) hS247 ?_
      have H248 := (Hp.reorder (L' := [.blk p15 [.int .u64 (wd n13 0 : Int), .int .u64 (wd n13 1 : Int), .int .u64 (wd n13 2 : Int), .int .u64 (wd n13 3 : Int)] 51, .blk p243 [.int .u64 0, .int .u64 0, .int .u64 0, .int .u64 0] 51, .blk p78 [.int .u64 0, .int .u64 0, .int .u64 0, .int .u64 0] 51]) H246 (List.Perm.cons _ (List.Perm.trans (List.Perm.swap _ _ _) (List.Perm.refl _))))
      refine GP.perm [0, 1, 2, 3, 4, 5, 6, 7, 8, 9, 10] (by kernel_rfl) rfl ?_
      rw [← hX]
      exact st130 _ p243 p78 H248
  have st129 : ∀ (wD_ : World) (p45 : Nat) (p87 : Nat), Hp w [] [.blk p15 [.int .u64 (wd n13 0 : Int), .int .u64 (wd n13 1 : Int), .int .u64 (wd n13 2 : Int), .int .u64 (wd n13 3 : Int)] 51, .blk p45 [.int .u64 0, .int .u64 0, .int .u64 0, .int .u64 0] 51, .blk p87 [.int .u64 0, .int .u64 0, .int .u64 0, .int .u64 0] 51] wD_ → X [0, 1, 2, 3, 9, 10] [(5, .bool true), (16, .pointer (some ⟨p45, 0, none⟩)), (17, .pointer (some ⟨p87, 0, none⟩)), (30, wv n13), (33, wv (x * y))] wD_ := by
    intro wD_ p45 p87 HD_
    rw [hX]
    have hS249 : Hp w [] [.blk p15 [.int .u64 (wd n13 0 : Int), .int .u64 (wd n13 1 : Int), .int .u64 (wd n13 2 : Int), .int .u64 (wd n13 3 : Int)] 51] wD_ := HD_.sub (List.Sublist.cons_cons _ (List.Sublist.cons _ (List.Sublist.cons _ (List.Sublist.slnil))))
    refine GP.all1 4 (by kernel_rfl) ?_
    · skip
      have hS250 : Hp w [] [.blk p15 [.int .u64 (wd n13 0 : Int), .int .u64 (wd n13 1 : Int), .int .u64 (wd n13 2 : Int), .int .u64 (wd n13 3 : Int)] 51] wD_ := HD_.sub (List.Sublist.cons_cons _ (List.Sublist.cons _ (List.Sublist.cons _ (List.Sublist.slnil))))
      refine GO.call (Div_calls n13 (x * y) n13l (prod_lt hx hy) (hd) wD_) (by kernel_rfl) (fun e_ w251 hR => ?_)
      obtain ⟨rfl, H253⟩ := hR
      have H252 : Hp w [] [.blk p15 [.int .u64 (wd n13 0 : Int), .int .u64 (wd n13 1 : Int), .int .u64 (wd n13 2 : Int), .int .u64 (wd n13 3 : Int)] 51, .blk p45 [.int .u64 0, .int .u64 0, .int .u64 0, .int .u64 0] 51, .blk p87 [.int .u64 0, .int .u64 0, .int .u64 0, .int .u64 0] 51] w251 := HD_.callNil H253
      have hS254 : Hp w [] [.blk p15 [.int .u64 (wd n13 0 : Int), .int .u64 (wd n13 1 : Int), .int .u64 (wd n13 2 : Int), .int .u64 (wd n13 3 : Int)] 51] w251 := H252.sub (List.Sublist.cons_cons _ (List.Sublist.cons _ (List.Sublist.cons _ (List.Sublist.slnil))))
      refine ⟨_, rfl, hS254, [5, 16, 17, 34], [(5, .bool true), (16, .pointer (some ⟨p45, 0, none⟩)), (17, .pointer (some ⟨p87, 0, none⟩)), (34, .tuple #[wv (n13 / (x * y)), wv (n13 % (x * y)), .int .i64 0])], by kernel_rfl, ?_⟩
      refine GP.run [5, 6, 7, 8] [5, 16, 17, 35, 36, 37] [(5, .bool true), (16, .pointer (some ⟨p45, 0, none⟩)), (17, .pointer (some ⟨p87, 0, none⟩)), (35, wv (n13 / (x * y))), (36, wv (n13 % (x * y))), (37, .int .i64 0)] [0, 1, 2, 3, 9, 10, 4, 5, 6, 7, 8] (by kernel_rfl) rfl hS254 ?_
      refine GP.perm [0, 1, 2, 3, 4, 5, 6, 7, 8, 9, 10] (by kernel_rfl) rfl ?_
      rw [← hX]
      exact st130 _ p45 p87 H252
  have st123 : ∀ (wD_ : World), Hp w [] [.blk p15 [.int .u64 (wd n13 0 : Int), .int .u64 (wd n13 1 : Int), .int .u64 (wd n13 2 : Int), .int .u64 (wd n13 3 : Int)] 51] wD_ → X [0, 1, 2, 3, 4, 5, 6, 7, 8] [(5, .bool true), (35, wv (n13 / (x * y))), (36, wv (n13 % (x * y))), (37, .int .i64 0)] wD_ := by
    intro wD_ HD_
    rw [hX]
    have hS255 : Hp w [] [.blk p15 [.int .u64 (wd n13 0 : Int), .int .u64 (wd n13 1 : Int), .int .u64 (wd n13 2 : Int), .int .u64 (wd n13 3 : Int)] 51] wD_ := HD_.sub (List.Sublist.cons_cons _ (List.Sublist.slnil))
    refine GP.all2 9 10 (by kernel_rfl) ?_ ?_
    · skip
      have hS256 : Hp w [] [.blk p15 [.int .u64 (wd n13 0 : Int), .int .u64 (wd n13 1 : Int), .int .u64 (wd n13 2 : Int), .int .u64 (wd n13 3 : Int)] 51] wD_ := HD_.sub (List.Sublist.cons_cons _ (List.Sublist.slnil))
      obtain ⟨p257, w258, r259, H260⟩ := HD_.alloc (P := Try.prog) 51 [.int .u64 0, .int .u64 0, .int .u64 0, .int .u64 0] (by kernel_rfl)
      have H260 : Hp w [] [.blk p15 [.int .u64 (wd n13 0 : Int), .int .u64 (wd n13 1 : Int), .int .u64 (wd n13 2 : Int), .int .u64 (wd n13 3 : Int)] 51, .blk p257 [.int .u64 0, .int .u64 0, .int .u64 0, .int .u64 0] 51] w258 := H260
      have hS261 : Hp w [] [.blk p15 [.int .u64 (wd n13 0 : Int), .int .u64 (wd n13 1 : Int), .int .u64 (wd n13 2 : Int), .int .u64 (wd n13 3 : Int)] 51] w258 := H260.sub (List.Sublist.cons_cons _ (List.Sublist.cons _ (List.Sublist.slnil)))
      refine GO.made r259 [5, 16, 35, 36, 37] [(5, .bool true), (16, .pointer (some ⟨p257, 0, none⟩)), (35, wv (n13 / (x * y))), (36, wv (n13 % (x * y))), (37, .int .i64 0)] (by kernel_rfl) (by kernel_rfl) hS261 ?_
      refine GP.perm [0, 1, 2, 3, 4, 5, 6, 7, 8, 9] (by kernel_rfl) rfl ?_
      rw [← hX]
      exact st127 _ p257 H260
    · skip
      have hS262 : Hp w [] [.blk p15 [.int .u64 (wd n13 0 : Int), .int .u64 (wd n13 1 : Int), .int .u64 (wd n13 2 : Int), .int .u64 (wd n13 3 : Int)] 51] wD_ := HD_.sub (List.Sublist.cons_cons _ (List.Sublist.slnil))
      obtain ⟨p263, w264, r265, H266⟩ := HD_.alloc (P := Try.prog) 51 [.int .u64 0, .int .u64 0, .int .u64 0, .int .u64 0] (by kernel_rfl)
      have H266 : Hp w [] [.blk p15 [.int .u64 (wd n13 0 : Int), .int .u64 (wd n13 1 : Int), .int .u64 (wd n13 2 : Int), .int .u64 (wd n13 3 : Int)] 51, .blk p263 [.int .u64 0, .int .u64 0, .int .u64 0, .int .u64 0] 51] w264 := H266
      have hS267 : Hp w [] [.blk p15 [.int .u64 (wd n13 0 : Int), .int .u64 (wd n13 1 : Int), .int .u64 (wd n13 2 : Int), .int .u64 (wd n13 3 : Int)] 51] w264 := H266.sub (List.Sublist.cons_cons _ (List.Sublist.cons _ (List.Sublist.slnil)))
      refine GO.made r265 [5, 17, 35, 36, 37] [(5, .bool true), (17, .pointer (some ⟨p263, 0, none⟩)), (35, wv (n13 / (x * y))), (36, wv (n13 % (x * y))), (37, .int .i64 0)] (by kernel_rfl) (by kernel_rfl) hS267 ?_
      refine GP.perm [0, 1, 2, 3, 4, 5, 6, 7, 8, 10] (by kernel_rfl) rfl ?_
      rw [← hX]
      exact st128 _ p263 H266
  have st124 : ∀ (wD_ : World) (p45 : Nat), Hp w [] [.blk p15 [.int .u64 (wd n13 0 : Int), .int .u64 (wd n13 1 : Int), .int .u64 (wd n13 2 : Int), .int .u64 (wd n13 3 : Int)] 51, .blk p45 [.int .u64 0, .int .u64 0, .int .u64 0, .int .u64 0] 51] wD_ → X [0, 1, 2, 3, 9] [(5, .bool true), (16, .pointer (some ⟨p45, 0, none⟩)), (30, wv n13), (33, wv (x * y))] wD_ := by
    intro wD_ p45 HD_
    rw [hX]
    have hS268 : Hp w [] [.blk p15 [.int .u64 (wd n13 0 : Int), .int .u64 (wd n13 1 : Int), .int .u64 (wd n13 2 : Int), .int .u64 (wd n13 3 : Int)] 51] wD_ := HD_.sub (List.Sublist.cons_cons _ (List.Sublist.cons _ (List.Sublist.slnil)))
    refine GP.all2 4 10 (by kernel_rfl) ?_ ?_
    · skip
      have hS269 : Hp w [] [.blk p15 [.int .u64 (wd n13 0 : Int), .int .u64 (wd n13 1 : Int), .int .u64 (wd n13 2 : Int), .int .u64 (wd n13 3 : Int)] 51] wD_ := HD_.sub (List.Sublist.cons_cons _ (List.Sublist.cons _ (List.Sublist.slnil)))
      refine GO.call (Div_calls n13 (x * y) n13l (prod_lt hx hy) (hd) wD_) (by kernel_rfl) (fun e_ w270 hR => ?_)
      obtain ⟨rfl, H272⟩ := hR
      have H271 : Hp w [] [.blk p15 [.int .u64 (wd n13 0 : Int), .int .u64 (wd n13 1 : Int), .int .u64 (wd n13 2 : Int), .int .u64 (wd n13 3 : Int)] 51, .blk p45 [.int .u64 0, .int .u64 0, .int .u64 0, .int .u64 0] 51] w270 := HD_.callNil H272
      have hS273 : Hp w [] [.blk p15 [.int .u64 (wd n13 0 : Int), .int .u64 (wd n13 1 : Int), .int .u64 (wd n13 2 : Int), .int .u64 (wd n13 3 : Int)] 51] w270 := H271.sub (List.Sublist.cons_cons _ (List.Sublist.cons _ (List.Sublist.slnil)))
      refine ⟨_, rfl, hS273, [5, 16, 34], [(5, .bool true), (16, .pointer (some ⟨p45, 0, none⟩)), (34, .tuple #[wv (n13 / (x * y)), wv (n13 % (x * y)), .int .i64 0])], by kernel_rfl, ?_⟩
      refine GP.run [5, 6, 7, 8] [5, 16, 35, 36, 37] [(5, .bool true), (16, .pointer (some ⟨p45, 0, none⟩)), (35, wv (n13 / (x * y))), (36, wv (n13 % (x * y))), (37, .int .i64 0)] [0, 1, 2, 3, 9, 4, 5, 6, 7, 8] (by kernel_rfl) rfl hS273 ?_
      refine GP.perm [0, 1, 2, 3, 4, 5, 6, 7, 8, 9] (by kernel_rfl) rfl ?_
      rw [← hX]
      exact st127 _ p45 H271
    · skip
      have hS274 : Hp w [] [.blk p15 [.int .u64 (wd n13 0 : Int), .int .u64 (wd n13 1 : Int), .int .u64 (wd n13 2 : Int), .int .u64 (wd n13 3 : Int)] 51] wD_ := HD_.sub (List.Sublist.cons_cons _ (List.Sublist.cons _ (List.Sublist.slnil)))
      obtain ⟨p275, w276, r277, H278⟩ := HD_.alloc (P := Try.prog) 51 [.int .u64 0, .int .u64 0, .int .u64 0, .int .u64 0] (by kernel_rfl)
      have H278 : Hp w [] [.blk p15 [.int .u64 (wd n13 0 : Int), .int .u64 (wd n13 1 : Int), .int .u64 (wd n13 2 : Int), .int .u64 (wd n13 3 : Int)] 51, .blk p45 [.int .u64 0, .int .u64 0, .int .u64 0, .int .u64 0] 51, .blk p275 [.int .u64 0, .int .u64 0, .int .u64 0, .int .u64 0] 51] w276 := H278
      have hS279 : Hp w [] [.blk p15 [.int .u64 (wd n13 0 : Int), .int .u64 (wd n13 1 : Int), .int .u64 (wd n13 2 : Int), .int .u64 (wd n13 3 : Int)] 51] w276 := H278.sub (List.Sublist.cons_cons _ (List.Sublist.cons _ (List.Sublist.cons _ (List.Sublist.slnil))))
      refine GO.made r277 [5, 16, 17, 30, 33] [(5, .bool true), (16, .pointer (some ⟨p45, 0, none⟩)), (17, .pointer (some ⟨p275, 0, none⟩)), (30, wv n13), (33, wv (x * y))] (by kernel_rfl) (by kernel_rfl) hS279 ?_
      refine GP.perm [0, 1, 2, 3, 9, 10] (by kernel_rfl) rfl ?_
      rw [← hX]
      exact st129 _ p45 p275 H278
  have st125 : ∀ (wD_ : World) (p50 : Nat), Hp w [] [.blk p15 [.int .u64 (wd n13 0 : Int), .int .u64 (wd n13 1 : Int), .int .u64 (wd n13 2 : Int), .int .u64 (wd n13 3 : Int)] 51, .blk p50 [.int .u64 0, .int .u64 0, .int .u64 0, .int .u64 0] 51] wD_ → X [0, 1, 2, 3, 10] [(5, .bool true), (17, .pointer (some ⟨p50, 0, none⟩)), (30, wv n13), (33, wv (x * y))] wD_ := by
    intro wD_ p50 HD_
    rw [hX]
    have hS280 : Hp w [] [.blk p15 [.int .u64 (wd n13 0 : Int), .int .u64 (wd n13 1 : Int), .int .u64 (wd n13 2 : Int), .int .u64 (wd n13 3 : Int)] 51] wD_ := HD_.sub (List.Sublist.cons_cons _ (List.Sublist.cons _ (List.Sublist.slnil)))
    refine GP.all2 4 9 (by kernel_rfl) ?_ ?_
    · skip
      have hS281 : Hp w [] [.blk p15 [.int .u64 (wd n13 0 : Int), .int .u64 (wd n13 1 : Int), .int .u64 (wd n13 2 : Int), .int .u64 (wd n13 3 : Int)] 51] wD_ := HD_.sub (List.Sublist.cons_cons _ (List.Sublist.cons _ (List.Sublist.slnil)))
      refine GO.call (Div_calls n13 (x * y) n13l (prod_lt hx hy) (hd) wD_) (by kernel_rfl) (fun e_ w282 hR => ?_)
      obtain ⟨rfl, H284⟩ := hR
      have H283 : Hp w [] [.blk p15 [.int .u64 (wd n13 0 : Int), .int .u64 (wd n13 1 : Int), .int .u64 (wd n13 2 : Int), .int .u64 (wd n13 3 : Int)] 51, .blk p50 [.int .u64 0, .int .u64 0, .int .u64 0, .int .u64 0] 51] w282 := HD_.callNil H284
      have hS285 : Hp w [] [.blk p15 [.int .u64 (wd n13 0 : Int), .int .u64 (wd n13 1 : Int), .int .u64 (wd n13 2 : Int), .int .u64 (wd n13 3 : Int)] 51] w282 := H283.sub (List.Sublist.cons_cons _ (List.Sublist.cons _ (List.Sublist.slnil)))
      refine ⟨_, rfl, hS285, [5, 17, 34], [(5, .bool true), (17, .pointer (some ⟨p50, 0, none⟩)), (34, .tuple #[wv (n13 / (x * y)), wv (n13 % (x * y)), .int .i64 0])], by kernel_rfl, ?_⟩
      refine GP.run [5, 6, 7, 8] [5, 17, 35, 36, 37] [(5, .bool true), (17, .pointer (some ⟨p50, 0, none⟩)), (35, wv (n13 / (x * y))), (36, wv (n13 % (x * y))), (37, .int .i64 0)] [0, 1, 2, 3, 10, 4, 5, 6, 7, 8] (by kernel_rfl) rfl hS285 ?_
      refine GP.perm [0, 1, 2, 3, 4, 5, 6, 7, 8, 10] (by kernel_rfl) rfl ?_
      rw [← hX]
      exact st128 _ p50 H283
    · skip
      have hS286 : Hp w [] [.blk p15 [.int .u64 (wd n13 0 : Int), .int .u64 (wd n13 1 : Int), .int .u64 (wd n13 2 : Int), .int .u64 (wd n13 3 : Int)] 51] wD_ := HD_.sub (List.Sublist.cons_cons _ (List.Sublist.cons _ (List.Sublist.slnil)))
      obtain ⟨p287, w288, r289, H290⟩ := HD_.alloc (P := Try.prog) 51 [.int .u64 0, .int .u64 0, .int .u64 0, .int .u64 0] (by kernel_rfl)
      have H290 : Hp w [] [.blk p15 [.int .u64 (wd n13 0 : Int), .int .u64 (wd n13 1 : Int), .int .u64 (wd n13 2 : Int), .int .u64 (wd n13 3 : Int)] 51, .blk p50 [.int .u64 0, .int .u64 0, .int .u64 0, .int .u64 0] 51, .blk p287 [.int .u64 0, .int .u64 0, .int .u64 0, .int .u64 0] 51] w288 := H290
      have hS291 : Hp w [] [.blk p15 [.int .u64 (wd n13 0 : Int), .int .u64 (wd n13 1 : Int), .int .u64 (wd n13 2 : Int), .int .u64 (wd n13 3 : Int)] 51] w288 := H290.sub (List.Sublist.cons_cons _ (List.Sublist.cons _ (List.Sublist.cons _ (List.Sublist.slnil))))
      refine GO.made r289 [5, 16, 17, 30, 33] [(5, .bool true), (16, .pointer (some ⟨p287, 0, none⟩)), (17, .pointer (some ⟨p50, 0, none⟩)), (30, wv n13), (33, wv (x * y))] (by kernel_rfl) (by kernel_rfl) hS291 ?_
      have H292 := (Hp.reorder (L' := [.blk p15 [.int .u64 (wd n13 0 : Int), .int .u64 (wd n13 1 : Int), .int .u64 (wd n13 2 : Int), .int .u64 (wd n13 3 : Int)] 51, .blk p287 [.int .u64 0, .int .u64 0, .int .u64 0, .int .u64 0] 51, .blk p50 [.int .u64 0, .int .u64 0, .int .u64 0, .int .u64 0] 51]) H290 (List.Perm.cons _ (List.Perm.trans (List.Perm.swap _ _ _) (List.Perm.refl _))))
      refine GP.perm [0, 1, 2, 3, 9, 10] (by kernel_rfl) rfl ?_
      rw [← hX]
      exact st129 _ p287 p50 H292
  have st126 : ∀ (wD_ : World) (p31 : Nat) (p59 : Nat), Hp w [] [.blk p15 [.int .u64 (wd n13 0 : Int), .int .u64 (wd n13 1 : Int), .int .u64 (wd n13 2 : Int), .int .u64 (wd n13 3 : Int)] 51, .blk p31 [.int .u64 0, .int .u64 0, .int .u64 0, .int .u64 0] 51, .blk p59 [.int .u64 0, .int .u64 0, .int .u64 0, .int .u64 0] 51] wD_ → X [0, 1, 2, 9, 10] [(5, .bool true), (16, .pointer (some ⟨p31, 0, none⟩)), (17, .pointer (some ⟨p59, 0, none⟩)), (30, wv n13), (31, .int .u64 (x : Int)), (32, .int .u64 (y : Int))] wD_ := by
    intro wD_ p31 p59 HD_
    rw [hX]
    have hS293 : Hp w [] [.blk p15 [.int .u64 (wd n13 0 : Int), .int .u64 (wd n13 1 : Int), .int .u64 (wd n13 2 : Int), .int .u64 (wd n13 3 : Int)] 51] wD_ := HD_.sub (List.Sublist.cons_cons _ (List.Sublist.cons _ (List.Sublist.cons _ (List.Sublist.slnil))))
    refine GP.all1 3 (by kernel_rfl) ?_
    · skip
      have hS294 : Hp w [] [.blk p15 [.int .u64 (wd n13 0 : Int), .int .u64 (wd n13 1 : Int), .int .u64 (wd n13 2 : Int), .int .u64 (wd n13 3 : Int)] 51] wD_ := HD_.sub (List.Sublist.cons_cons _ (List.Sublist.cons _ (List.Sublist.cons _ (List.Sublist.slnil))))
      refine GO.call (Product_calls x y hx hy wD_) (by kernel_rfl) (fun e_ w295 hR => ?_)
      obtain ⟨rfl, H297⟩ := hR
      have H296 : Hp w [] [.blk p15 [.int .u64 (wd n13 0 : Int), .int .u64 (wd n13 1 : Int), .int .u64 (wd n13 2 : Int), .int .u64 (wd n13 3 : Int)] 51, .blk p31 [.int .u64 0, .int .u64 0, .int .u64 0, .int .u64 0] 51, .blk p59 [.int .u64 0, .int .u64 0, .int .u64 0, .int .u64 0] 51] w295 := HD_.callNil H297
      have hS298 : Hp w [] [.blk p15 [.int .u64 (wd n13 0 : Int), .int .u64 (wd n13 1 : Int), .int .u64 (wd n13 2 : Int), .int .u64 (wd n13 3 : Int)] 51] w295 := H296.sub (List.Sublist.cons_cons _ (List.Sublist.cons _ (List.Sublist.cons _ (List.Sublist.slnil))))
      refine ⟨_, rfl, hS298, [5, 16, 17, 30, 33], [(5, .bool true), (16, .pointer (some ⟨p31, 0, none⟩)), (17, .pointer (some ⟨p59, 0, none⟩)), (30, wv n13), (33, wv (x * y))], by kernel_rfl, ?_⟩
      refine GP.perm [0, 1, 2, 3, 9, 10] (by kernel_rfl) rfl ?_
      rw [← hX]
      exact st129 _ p31 p59 H296
  have st120 : ∀ (wD_ : World), Hp w [] [.blk p15 [.int .u64 (wd n13 0 : Int), .int .u64 (wd n13 1 : Int), .int .u64 (wd n13 2 : Int), .int .u64 (wd n13 3 : Int)] 51] wD_ → X [0, 1, 2, 3] [(5, .bool true), (30, wv n13), (33, wv (x * y))] wD_ := by
    intro wD_ HD_
    rw [hX]
    have hS299 : Hp w [] [.blk p15 [.int .u64 (wd n13 0 : Int), .int .u64 (wd n13 1 : Int), .int .u64 (wd n13 2 : Int), .int .u64 (wd n13 3 : Int)] 51] wD_ := HD_.sub (List.Sublist.cons_cons _ (List.Sublist.slnil))
    refine GP.all3 4 9 10 (by kernel_rfl) ?_ ?_ ?_
    · skip
      have hS300 : Hp w [] [.blk p15 [.int .u64 (wd n13 0 : Int), .int .u64 (wd n13 1 : Int), .int .u64 (wd n13 2 : Int), .int .u64 (wd n13 3 : Int)] 51] wD_ := HD_.sub (List.Sublist.cons_cons _ (List.Sublist.slnil))
      refine GO.call (Div_calls n13 (x * y) n13l (prod_lt hx hy) (hd) wD_) (by kernel_rfl) (fun e_ w301 hR => ?_)
      obtain ⟨rfl, H303⟩ := hR
      have H302 : Hp w [] [.blk p15 [.int .u64 (wd n13 0 : Int), .int .u64 (wd n13 1 : Int), .int .u64 (wd n13 2 : Int), .int .u64 (wd n13 3 : Int)] 51] w301 := HD_.callNil H303
      have hS304 : Hp w [] [.blk p15 [.int .u64 (wd n13 0 : Int), .int .u64 (wd n13 1 : Int), .int .u64 (wd n13 2 : Int), .int .u64 (wd n13 3 : Int)] 51] w301 := H302.sub (List.Sublist.cons_cons _ (List.Sublist.slnil))
      refine ⟨_, rfl, hS304, [5, 34], [(5, .bool true), (34, .tuple #[wv (n13 / (x * y)), wv (n13 % (x * y)), .int .i64 0])], by kernel_rfl, ?_⟩
      refine GP.run [5, 6, 7, 8] [5, 35, 36, 37] [(5, .bool true), (35, wv (n13 / (x * y))), (36, wv (n13 % (x * y))), (37, .int .i64 0)] [0, 1, 2, 3, 4, 5, 6, 7, 8] (by kernel_rfl) rfl hS304 ?_
      refine GP.perm [0, 1, 2, 3, 4, 5, 6, 7, 8] (by kernel_rfl) rfl ?_
      rw [← hX]
      exact st123 _ H302
    · skip
      have hS305 : Hp w [] [.blk p15 [.int .u64 (wd n13 0 : Int), .int .u64 (wd n13 1 : Int), .int .u64 (wd n13 2 : Int), .int .u64 (wd n13 3 : Int)] 51] wD_ := HD_.sub (List.Sublist.cons_cons _ (List.Sublist.slnil))
      obtain ⟨p306, w307, r308, H309⟩ := HD_.alloc (P := Try.prog) 51 [.int .u64 0, .int .u64 0, .int .u64 0, .int .u64 0] (by kernel_rfl)
      have H309 : Hp w [] [.blk p15 [.int .u64 (wd n13 0 : Int), .int .u64 (wd n13 1 : Int), .int .u64 (wd n13 2 : Int), .int .u64 (wd n13 3 : Int)] 51, .blk p306 [.int .u64 0, .int .u64 0, .int .u64 0, .int .u64 0] 51] w307 := H309
      have hS310 : Hp w [] [.blk p15 [.int .u64 (wd n13 0 : Int), .int .u64 (wd n13 1 : Int), .int .u64 (wd n13 2 : Int), .int .u64 (wd n13 3 : Int)] 51] w307 := H309.sub (List.Sublist.cons_cons _ (List.Sublist.cons _ (List.Sublist.slnil)))
      refine GO.made r308 [5, 16, 30, 33] [(5, .bool true), (16, .pointer (some ⟨p306, 0, none⟩)), (30, wv n13), (33, wv (x * y))] (by kernel_rfl) (by kernel_rfl) hS310 ?_
      refine GP.perm [0, 1, 2, 3, 9] (by kernel_rfl) rfl ?_
      rw [← hX]
      exact st124 _ p306 H309
    · skip
      have hS311 : Hp w [] [.blk p15 [.int .u64 (wd n13 0 : Int), .int .u64 (wd n13 1 : Int), .int .u64 (wd n13 2 : Int), .int .u64 (wd n13 3 : Int)] 51] wD_ := HD_.sub (List.Sublist.cons_cons _ (List.Sublist.slnil))
      obtain ⟨p312, w313, r314, H315⟩ := HD_.alloc (P := Try.prog) 51 [.int .u64 0, .int .u64 0, .int .u64 0, .int .u64 0] (by kernel_rfl)
      have H315 : Hp w [] [.blk p15 [.int .u64 (wd n13 0 : Int), .int .u64 (wd n13 1 : Int), .int .u64 (wd n13 2 : Int), .int .u64 (wd n13 3 : Int)] 51, .blk p312 [.int .u64 0, .int .u64 0, .int .u64 0, .int .u64 0] 51] w313 := H315
      have hS316 : Hp w [] [.blk p15 [.int .u64 (wd n13 0 : Int), .int .u64 (wd n13 1 : Int), .int .u64 (wd n13 2 : Int), .int .u64 (wd n13 3 : Int)] 51] w313 := H315.sub (List.Sublist.cons_cons _ (List.Sublist.cons _ (List.Sublist.slnil)))
      refine GO.made r314 [5, 17, 30, 33] [(5, .bool true), (17, .pointer (some ⟨p312, 0, none⟩)), (30, wv n13), (33, wv (x * y))] (by kernel_rfl) (by kernel_rfl) hS316 ?_
      refine GP.perm [0, 1, 2, 3, 10] (by kernel_rfl) rfl ?_
      rw [← hX]
      exact st125 _ p312 H315
  have st121 : ∀ (wD_ : World) (p31 : Nat), Hp w [] [.blk p15 [.int .u64 (wd n13 0 : Int), .int .u64 (wd n13 1 : Int), .int .u64 (wd n13 2 : Int), .int .u64 (wd n13 3 : Int)] 51, .blk p31 [.int .u64 0, .int .u64 0, .int .u64 0, .int .u64 0] 51] wD_ → X [0, 1, 2, 9] [(5, .bool true), (16, .pointer (some ⟨p31, 0, none⟩)), (30, wv n13), (31, .int .u64 (x : Int)), (32, .int .u64 (y : Int))] wD_ := by
    intro wD_ p31 HD_
    rw [hX]
    have hS317 : Hp w [] [.blk p15 [.int .u64 (wd n13 0 : Int), .int .u64 (wd n13 1 : Int), .int .u64 (wd n13 2 : Int), .int .u64 (wd n13 3 : Int)] 51] wD_ := HD_.sub (List.Sublist.cons_cons _ (List.Sublist.cons _ (List.Sublist.slnil)))
    refine GP.all2 3 10 (by kernel_rfl) ?_ ?_
    · skip
      have hS318 : Hp w [] [.blk p15 [.int .u64 (wd n13 0 : Int), .int .u64 (wd n13 1 : Int), .int .u64 (wd n13 2 : Int), .int .u64 (wd n13 3 : Int)] 51] wD_ := HD_.sub (List.Sublist.cons_cons _ (List.Sublist.cons _ (List.Sublist.slnil)))
      refine GO.call (Product_calls x y hx hy wD_) (by kernel_rfl) (fun e_ w319 hR => ?_)
      obtain ⟨rfl, H321⟩ := hR
      have H320 : Hp w [] [.blk p15 [.int .u64 (wd n13 0 : Int), .int .u64 (wd n13 1 : Int), .int .u64 (wd n13 2 : Int), .int .u64 (wd n13 3 : Int)] 51, .blk p31 [.int .u64 0, .int .u64 0, .int .u64 0, .int .u64 0] 51] w319 := HD_.callNil H321
      have hS322 : Hp w [] [.blk p15 [.int .u64 (wd n13 0 : Int), .int .u64 (wd n13 1 : Int), .int .u64 (wd n13 2 : Int), .int .u64 (wd n13 3 : Int)] 51] w319 := H320.sub (List.Sublist.cons_cons _ (List.Sublist.cons _ (List.Sublist.slnil)))
      refine ⟨_, rfl, hS322, [5, 16, 30, 33], [(5, .bool true), (16, .pointer (some ⟨p31, 0, none⟩)), (30, wv n13), (33, wv (x * y))], by kernel_rfl, ?_⟩
      refine GP.perm [0, 1, 2, 3, 9] (by kernel_rfl) rfl ?_
      rw [← hX]
      exact st124 _ p31 H320
    · skip
      have hS323 : Hp w [] [.blk p15 [.int .u64 (wd n13 0 : Int), .int .u64 (wd n13 1 : Int), .int .u64 (wd n13 2 : Int), .int .u64 (wd n13 3 : Int)] 51] wD_ := HD_.sub (List.Sublist.cons_cons _ (List.Sublist.cons _ (List.Sublist.slnil)))
      obtain ⟨p324, w325, r326, H327⟩ := HD_.alloc (P := Try.prog) 51 [.int .u64 0, .int .u64 0, .int .u64 0, .int .u64 0] (by kernel_rfl)
      have H327 : Hp w [] [.blk p15 [.int .u64 (wd n13 0 : Int), .int .u64 (wd n13 1 : Int), .int .u64 (wd n13 2 : Int), .int .u64 (wd n13 3 : Int)] 51, .blk p31 [.int .u64 0, .int .u64 0, .int .u64 0, .int .u64 0] 51, .blk p324 [.int .u64 0, .int .u64 0, .int .u64 0, .int .u64 0] 51] w325 := H327
      have hS328 : Hp w [] [.blk p15 [.int .u64 (wd n13 0 : Int), .int .u64 (wd n13 1 : Int), .int .u64 (wd n13 2 : Int), .int .u64 (wd n13 3 : Int)] 51] w325 := H327.sub (List.Sublist.cons_cons _ (List.Sublist.cons _ (List.Sublist.cons _ (List.Sublist.slnil))))
      refine GO.made r326 [5, 16, 17, 30, 31, 32] [(5, .bool true), (16, .pointer (some ⟨p31, 0, none⟩)), (17, .pointer (some ⟨p324, 0, none⟩)), (30, wv n13), (31, .int .u64 (x : Int)), (32, .int .u64 (y : Int))] (by kernel_rfl) (by kernel_rfl) hS328 ?_
      refine GP.perm [0, 1, 2, 9, 10] (by kernel_rfl) rfl ?_
      rw [← hX]
      exact st126 _ p31 p324 H327
  have st122 : ∀ (wD_ : World) (p36 : Nat), Hp w [] [.blk p15 [.int .u64 (wd n13 0 : Int), .int .u64 (wd n13 1 : Int), .int .u64 (wd n13 2 : Int), .int .u64 (wd n13 3 : Int)] 51, .blk p36 [.int .u64 0, .int .u64 0, .int .u64 0, .int .u64 0] 51] wD_ → X [0, 1, 2, 10] [(5, .bool true), (17, .pointer (some ⟨p36, 0, none⟩)), (30, wv n13), (31, .int .u64 (x : Int)), (32, .int .u64 (y : Int))] wD_ := by
    intro wD_ p36 HD_
    rw [hX]
    have hS329 : Hp w [] [.blk p15 [.int .u64 (wd n13 0 : Int), .int .u64 (wd n13 1 : Int), .int .u64 (wd n13 2 : Int), .int .u64 (wd n13 3 : Int)] 51] wD_ := HD_.sub (List.Sublist.cons_cons _ (List.Sublist.cons _ (List.Sublist.slnil)))
    refine GP.all2 3 9 (by kernel_rfl) ?_ ?_
    · skip
      have hS330 : Hp w [] [.blk p15 [.int .u64 (wd n13 0 : Int), .int .u64 (wd n13 1 : Int), .int .u64 (wd n13 2 : Int), .int .u64 (wd n13 3 : Int)] 51] wD_ := HD_.sub (List.Sublist.cons_cons _ (List.Sublist.cons _ (List.Sublist.slnil)))
      refine GO.call (Product_calls x y hx hy wD_) (by kernel_rfl) (fun e_ w331 hR => ?_)
      obtain ⟨rfl, H333⟩ := hR
      have H332 : Hp w [] [.blk p15 [.int .u64 (wd n13 0 : Int), .int .u64 (wd n13 1 : Int), .int .u64 (wd n13 2 : Int), .int .u64 (wd n13 3 : Int)] 51, .blk p36 [.int .u64 0, .int .u64 0, .int .u64 0, .int .u64 0] 51] w331 := HD_.callNil H333
      have hS334 : Hp w [] [.blk p15 [.int .u64 (wd n13 0 : Int), .int .u64 (wd n13 1 : Int), .int .u64 (wd n13 2 : Int), .int .u64 (wd n13 3 : Int)] 51] w331 := H332.sub (List.Sublist.cons_cons _ (List.Sublist.cons _ (List.Sublist.slnil)))
      refine ⟨_, rfl, hS334, [5, 17, 30, 33], [(5, .bool true), (17, .pointer (some ⟨p36, 0, none⟩)), (30, wv n13), (33, wv (x * y))], by kernel_rfl, ?_⟩
      refine GP.perm [0, 1, 2, 3, 10] (by kernel_rfl) rfl ?_
      rw [← hX]
      exact st125 _ p36 H332
    · skip
      have hS335 : Hp w [] [.blk p15 [.int .u64 (wd n13 0 : Int), .int .u64 (wd n13 1 : Int), .int .u64 (wd n13 2 : Int), .int .u64 (wd n13 3 : Int)] 51] wD_ := HD_.sub (List.Sublist.cons_cons _ (List.Sublist.cons _ (List.Sublist.slnil)))
      obtain ⟨p336, w337, r338, H339⟩ := HD_.alloc (P := Try.prog) 51 [.int .u64 0, .int .u64 0, .int .u64 0, .int .u64 0] (by kernel_rfl)
      have H339 : Hp w [] [.blk p15 [.int .u64 (wd n13 0 : Int), .int .u64 (wd n13 1 : Int), .int .u64 (wd n13 2 : Int), .int .u64 (wd n13 3 : Int)] 51, .blk p36 [.int .u64 0, .int .u64 0, .int .u64 0, .int .u64 0] 51, .blk p336 [.int .u64 0, .int .u64 0, .int .u64 0, .int .u64 0] 51] w337 := H339
      have hS340 : Hp w [] [.blk p15 [.int .u64 (wd n13 0 : Int), .int .u64 (wd n13 1 : Int), .int .u64 (wd n13 2 : Int), .int .u64 (wd n13 3 : Int)] 51] w337 := H339.sub (List.Sublist.cons_cons _ (List.Sublist.cons _ (List.Sublist.cons _ (List.Sublist.slnil))))
      refine GO.made r338 [5, 16, 17, 30, 31, 32] [(5, .bool true), (16, .pointer (some ⟨p336, 0, none⟩)), (17, .pointer (some ⟨p36, 0, none⟩)), (30, wv n13), (31, .int .u64 (x : Int)), (32, .int .u64 (y : Int))] (by kernel_rfl) (by kernel_rfl) hS340 ?_
      have H341 := (Hp.reorder (L' := [.blk p15 [.int .u64 (wd n13 0 : Int), .int .u64 (wd n13 1 : Int), .int .u64 (wd n13 2 : Int), .int .u64 (wd n13 3 : Int)] 51, .blk p336 [.int .u64 0, .int .u64 0, .int .u64 0, .int .u64 0] 51, .blk p36 [.int .u64 0, .int .u64 0, .int .u64 0, .int .u64 0] 51]) H339 (List.Perm.cons _ (List.Perm.trans (List.Perm.swap _ _ _) (List.Perm.refl _))))
      refine GP.perm [0, 1, 2, 9, 10] (by kernel_rfl) rfl ?_
      rw [← hX]
      exact st126 _ p336 p36 H341
  have st119 : ∀ (wD_ : World), Hp w [] [.blk p15 [.int .u64 (wd n13 0 : Int), .int .u64 (wd n13 1 : Int), .int .u64 (wd n13 2 : Int), .int .u64 (wd n13 3 : Int)] 51] wD_ → X [0, 1, 2] [(5, .bool true), (30, wv n13), (31, .int .u64 (x : Int)), (32, .int .u64 (y : Int))] wD_ := by
    intro wD_ HD_
    rw [hX]
    have hS342 : Hp w [] [.blk p15 [.int .u64 (wd n13 0 : Int), .int .u64 (wd n13 1 : Int), .int .u64 (wd n13 2 : Int), .int .u64 (wd n13 3 : Int)] 51] wD_ := HD_.sub (List.Sublist.cons_cons _ (List.Sublist.slnil))
    refine GP.all3 3 9 10 (by kernel_rfl) ?_ ?_ ?_
    · skip
      have hS343 : Hp w [] [.blk p15 [.int .u64 (wd n13 0 : Int), .int .u64 (wd n13 1 : Int), .int .u64 (wd n13 2 : Int), .int .u64 (wd n13 3 : Int)] 51] wD_ := HD_.sub (List.Sublist.cons_cons _ (List.Sublist.slnil))
      refine GO.call (Product_calls x y hx hy wD_) (by kernel_rfl) (fun e_ w344 hR => ?_)
      obtain ⟨rfl, H346⟩ := hR
      have H345 : Hp w [] [.blk p15 [.int .u64 (wd n13 0 : Int), .int .u64 (wd n13 1 : Int), .int .u64 (wd n13 2 : Int), .int .u64 (wd n13 3 : Int)] 51] w344 := HD_.callNil H346
      have hS347 : Hp w [] [.blk p15 [.int .u64 (wd n13 0 : Int), .int .u64 (wd n13 1 : Int), .int .u64 (wd n13 2 : Int), .int .u64 (wd n13 3 : Int)] 51] w344 := H345.sub (List.Sublist.cons_cons _ (List.Sublist.slnil))
      refine ⟨_, rfl, hS347, [5, 30, 33], [(5, .bool true), (30, wv n13), (33, wv (x * y))], by kernel_rfl, ?_⟩
      refine GP.perm [0, 1, 2, 3] (by kernel_rfl) rfl ?_
      rw [← hX]
      exact st120 _ H345
    · skip
      have hS348 : Hp w [] [.blk p15 [.int .u64 (wd n13 0 : Int), .int .u64 (wd n13 1 : Int), .int .u64 (wd n13 2 : Int), .int .u64 (wd n13 3 : Int)] 51] wD_ := HD_.sub (List.Sublist.cons_cons _ (List.Sublist.slnil))
      obtain ⟨p349, w350, r351, H352⟩ := HD_.alloc (P := Try.prog) 51 [.int .u64 0, .int .u64 0, .int .u64 0, .int .u64 0] (by kernel_rfl)
      have H352 : Hp w [] [.blk p15 [.int .u64 (wd n13 0 : Int), .int .u64 (wd n13 1 : Int), .int .u64 (wd n13 2 : Int), .int .u64 (wd n13 3 : Int)] 51, .blk p349 [.int .u64 0, .int .u64 0, .int .u64 0, .int .u64 0] 51] w350 := H352
      have hS353 : Hp w [] [.blk p15 [.int .u64 (wd n13 0 : Int), .int .u64 (wd n13 1 : Int), .int .u64 (wd n13 2 : Int), .int .u64 (wd n13 3 : Int)] 51] w350 := H352.sub (List.Sublist.cons_cons _ (List.Sublist.cons _ (List.Sublist.slnil)))
      refine GO.made r351 [5, 16, 30, 31, 32] [(5, .bool true), (16, .pointer (some ⟨p349, 0, none⟩)), (30, wv n13), (31, .int .u64 (x : Int)), (32, .int .u64 (y : Int))] (by kernel_rfl) (by kernel_rfl) hS353 ?_
      refine GP.perm [0, 1, 2, 9] (by kernel_rfl) rfl ?_
      rw [← hX]
      exact st121 _ p349 H352
    · skip
      have hS354 : Hp w [] [.blk p15 [.int .u64 (wd n13 0 : Int), .int .u64 (wd n13 1 : Int), .int .u64 (wd n13 2 : Int), .int .u64 (wd n13 3 : Int)] 51] wD_ := HD_.sub (List.Sublist.cons_cons _ (List.Sublist.slnil))
      obtain ⟨p355, w356, r357, H358⟩ := HD_.alloc (P := Try.prog) 51 [.int .u64 0, .int .u64 0, .int .u64 0, .int .u64 0] (by kernel_rfl)
      have H358 : Hp w [] [.blk p15 [.int .u64 (wd n13 0 : Int), .int .u64 (wd n13 1 : Int), .int .u64 (wd n13 2 : Int), .int .u64 (wd n13 3 : Int)] 51, .blk p355 [.int .u64 0, .int .u64 0, .int .u64 0, .int .u64 0] 51] w356 := H358
      have hS359 : Hp w [] [.blk p15 [.int .u64 (wd n13 0 : Int), .int .u64 (wd n13 1 : Int), .int .u64 (wd n13 2 : Int), .int .u64 (wd n13 3 : Int)] 51] w356 := H358.sub (List.Sublist.cons_cons _ (List.Sublist.cons _ (List.Sublist.slnil)))
      refine GO.made r357 [5, 17, 30, 31, 32] [(5, .bool true), (17, .pointer (some ⟨p355, 0, none⟩)), (30, wv n13), (31, .int .u64 (x : Int)), (32, .int .u64 (y : Int))] (by kernel_rfl) (by kernel_rfl) hS359 ?_
      refine GP.perm [0, 1, 2, 10] (by kernel_rfl) rfl ?_
      rw [← hX]
      exact st122 _ p355 H358
  exact st119 _ H24
theorem divide_down (a b c x y : Nat) (ha : a < K) (hb : b < K) (hc : c < K) (hx : x < K) (hy : y < K) (hn : a * b * c + 1 < K4) (hd : x * y ≠ 0) (w : World) : Calls Try.prog 33 #[.int .u64 (a : Int), .int .u64 (b : Int), .int .u64 (c : Int), .int .u64 (x : Int), .int .u64 (y : Int), .bool false] w fun e w' => e = .returned (.tuple #[.int .u64 ((divV (a * b * c) (x * y) false : Nat) : Int), .int .i64 ((divE (a * b * c) (x * y) false : Nat) : Int)]) ∧ Hp w [] [] w' := by
  have hMX : MX = 4611686018427387904 := rfl
  have hK0 : K = 18446744073709551616 := rfl
  have hK40 : K4 = 115792089237316195423570985008687907853269984665640564039457584007913129639936 := rfl
  refine calls_G (args := [.int .u64 (a : Int), .int .u64 (b : Int), .int .u64 (c : Int), .int .u64 (x : Int), .int .u64 (y : Int), .bool false]) Try.func33 rfl Try.ntmps33 rfl ?_
  intro Q0 hRet hNor hPan
  have H := Hp.start w
  have H : Hp w [] [] w := H
  refine G.seqK fun K1 hK2 => ?_
  refine G.region ?_
  refine GL.run (j := 2) 2 [0, 1, 2, 3, 4, 5] [(0, .int .u64 (a : Int)), (1, .int .u64 (b : Int)), (2, .int .u64 (c : Int)), (3, .int .u64 (x : Int)), (4, .int .u64 (y : Int)), (5, .bool false)] (by kernel_rfl) rfl ?_
  refine GL.k rfl hK2 (fun _ _ h => h) ?_
  refine G.seqK fun K3 hK4 => ?_
  refine G.region ?_
  refine GL.run (j := 2) 2 [2, 3, 4, 5, 22, 23] [(2, .int .u64 (c : Int)), (3, .int .u64 (x : Int)), (4, .int .u64 (y : Int)), (5, .bool false), (22, .int .u64 (a : Int)), (23, .int .u64 (b : Int))] (by kernel_rfl) rfl ?_
  refine GL.call (j := 3) (Product_calls a b ha hb w) (by kernel_rfl) rfl (fun e_ w5 hR => ?_)
  obtain ⟨he_, H7⟩ := hR
  obtain ⟨n8, hn9⟩ : ∃ v : Nat, v = a * b := ⟨_, rfl⟩
  rw [← hn9] at he_
  have n8l : n8 < K4 := by rw [hn9]; exact prod_lt ha hb
  subst he_
  have H6 : Hp w [] [] w5 := H.callNil H7
  refine ⟨_, rfl, [2, 3, 4, 5, 24], [(2, .int .u64 (c : Int)), (3, .int .u64 (x : Int)), (4, .int .u64 (y : Int)), (5, .bool false), (24, wv n8)], by kernel_rfl, ?_⟩
  refine GL.run (j := 4) 1 [3, 4, 5, 24, 25] [(3, .int .u64 (x : Int)), (4, .int .u64 (y : Int)), (5, .bool false), (24, wv n8), (25, .int .u64 (c : Int))] (by kernel_rfl) rfl ?_
  refine GL.call (j := 5) (Mul_calls n8 c n8l hc w5) (by kernel_rfl) rfl (fun e_ w10 hR => ?_)
  obtain ⟨he_, H12⟩ := hR
  obtain ⟨n13, hn14⟩ : ∃ v : Nat, v = n8 * c % K4 := ⟨_, rfl⟩
  rw [← hn14] at he_
  have n13l : n13 < K4 := by rw [hn14]; exact Nat.mod_lt _ (by decide)
  subst he_
  have H11 : Hp w [] [] w10 := H6.callNil H12
  refine ⟨_, rfl, [3, 4, 5, 26], [(3, .int .u64 (x : Int)), (4, .int .u64 (y : Int)), (5, .bool false), (26, .tuple #[wv n13, .bool (decide (K4 ≤ n8 * c))])], by kernel_rfl, ?_⟩
  refine GL.run (j := 8) 3 [3, 4, 5, 27, 28] [(3, .int .u64 (x : Int)), (4, .int .u64 (y : Int)), (5, .bool false), (27, wv n13), (28, .bool (decide (K4 ≤ n8 * c)))] (by kernel_rfl) rfl ?_
  obtain ⟨p15, w16, r17, H18⟩ := H11.alloc (P := Try.prog) 51 [.int .u64 0, .int .u64 0, .int .u64 0, .int .u64 0] (by kernel_rfl)
  have H18 : Hp w [] [.blk p15 [.int .u64 0, .int .u64 0, .int .u64 0, .int .u64 0] 51] w16 := H18
  refine GL.sem (j := 9) (r17) [3, 4, 5, 14, 27, 28] [(3, .int .u64 (x : Int)), (4, .int .u64 (y : Int)), (5, .bool false), (14, .pointer (some ⟨p15, 0, none⟩)), (27, wv n13), (28, .bool (decide (K4 ≤ n8 * c)))] (by kernel_rfl) (by kernel_rfl) rfl ?_
  obtain ⟨w19, r20, H21⟩ := H18.stA (P := Try.prog) (o := 0) (vs := [.int .u64 (wd n13 0 : Int), .int .u64 (wd n13 1 : Int), .int .u64 (wd n13 2 : Int), .int .u64 (wd n13 3 : Int)]) (ty := 51) (m := 4) 0 rfl (by kernel_rfl) rfl (by simp) (by simp [Value.oneCell'])
  have H21 : Hp w [] [.blk p15 [.int .u64 (wd n13 0 : Int), .int .u64 (wd n13 1 : Int), .int .u64 (wd n13 2 : Int), .int .u64 (wd n13 3 : Int)] 51] w19 := H21
  refine GL.semU (j := 10) r20 [3, 4, 5, 14, 28] [(3, .int .u64 (x : Int)), (4, .int .u64 (y : Int)), (5, .bool false), (14, .pointer (some ⟨p15, 0, none⟩)), (28, .bool (decide (K4 ≤ n8 * c)))] (by kernel_rfl) rfl rfl rfl ?_
  refine GL.run (j := 11) 1 [3, 4, 5, 14] [(3, .int .u64 (x : Int)), (4, .int .u64 (y : Int)), (5, .bool false), (14, .pointer (some ⟨p15, 0, none⟩))] (by kernel_rfl) rfl ?_
  refine GL.k rfl hK4 (fun _ _ h => h) ?_
  refine G.seqK fun K22 hK23 => ?_
  refine G.heldP (Hp w [] [.blk p15 [.int .u64 (wd n13 0 : Int), .int .u64 (wd n13 1 : Int), .int .u64 (wd n13 2 : Int), .int .u64 (wd n13 3 : Int)] 51]) (by kernel_rfl) (by kernel_rfl) (fun c_ a_ d_ v_ w_ h_ => hPan c_ a_ d_ v_ w_ h_) ?_
  have H24 := H21.drew
  generalize ({ w19 with drawn := w19.drawn + 1 } : World) = w25 at H24 ⊢
  have hS26 : Hp w [] [.blk p15 [.int .u64 (wd n13 0 : Int), .int .u64 (wd n13 1 : Int), .int .u64 (wd n13 2 : Int), .int .u64 (wd n13 3 : Int)] 51] w25 := H24.sub (List.Sublist.cons_cons _ (List.Sublist.slnil))
  refine GP.sem 0 (fun w_ H_ => H_.ldA (o := 0) (ty := 51) (m := 4) (sub := [.int .u64 (wd n13 0 : Int), .int .u64 (wd n13 1 : Int), .int .u64 (wd n13 2 : Int), .int .u64 (wd n13 3 : Int)]) 0 rfl (by kernel_rfl) rfl rfl) [3, 4, 5, 30] [(3, .int .u64 (x : Int)), (4, .int .u64 (y : Int)), (5, .bool false), (30, wv n13)] (by kernel_rfl) (by kernel_rfl) (by kernel_rfl) hS26 ?_
  refine GP.run [1, 2] [5, 30, 31, 32] [(5, .bool false), (30, wv n13), (31, .int .u64 (x : Int)), (32, .int .u64 (y : Int))] [0, 1, 2] (by kernel_rfl) rfl hS26 ?_
  refine GP.named fun X hX => ?_
  have st130 : ∀ (wD_ : World) (p73 : Nat) (p105 : Nat), Hp w [] [.blk p15 [.int .u64 (wd n13 0 : Int), .int .u64 (wd n13 1 : Int), .int .u64 (wd n13 2 : Int), .int .u64 (wd n13 3 : Int)] 51, .blk p73 [.int .u64 0, .int .u64 0, .int .u64 0, .int .u64 0] 51, .blk p105 [.int .u64 0, .int .u64 0, .int .u64 0, .int .u64 0] 51] wD_ → X [0, 1, 2, 3, 4, 5, 6, 7, 8, 9, 10] [(5, .bool false), (16, .pointer (some ⟨p73, 0, none⟩)), (17, .pointer (some ⟨p105, 0, none⟩)), (35, wv (n13 / (x * y))), (36, wv (n13 % (x * y))), (37, .int .i64 0)] wD_ := by
    intro wD_ p73 p105 HD_
    rw [hX]
    have hS131 : Hp w [] [.blk p15 [.int .u64 (wd n13 0 : Int), .int .u64 (wd n13 1 : Int), .int .u64 (wd n13 2 : Int), .int .u64 (wd n13 3 : Int)] 51] wD_ := HD_.sub (List.Sublist.cons_cons _ (List.Sublist.cons _ (List.Sublist.cons _ (List.Sublist.slnil))))
    obtain ⟨w132, r133, H134⟩ := HD_.stA (P := Try.prog) (o := 0) (vs := [.int .u64 (wd (n13 / (x * y)) 0 : Int), .int .u64 (wd (n13 / (x * y)) 1 : Int), .int .u64 (wd (n13 / (x * y)) 2 : Int), .int .u64 (wd (n13 / (x * y)) 3 : Int)]) (ty := 51) (m := 4) 1 rfl (by kernel_rfl) rfl (by simp) (by simp [Value.oneCell'])
    have H134 : Hp w [] [.blk p15 [.int .u64 (wd n13 0 : Int), .int .u64 (wd n13 1 : Int), .int .u64 (wd n13 2 : Int), .int .u64 (wd n13 3 : Int)] 51, .blk p73 [.int .u64 (wd (n13 / (x * y)) 0 : Int), .int .u64 (wd (n13 / (x * y)) 1 : Int), .int .u64 (wd (n13 / (x * y)) 2 : Int), .int .u64 (wd (n13 / (x * y)) 3 : Int)] 51, .blk p105 [.int .u64 0, .int .u64 0, .int .u64 0, .int .u64 0] 51] w132 := H134
    have hS135 : Hp w [] [.blk p15 [.int .u64 (wd n13 0 : Int), .int .u64 (wd n13 1 : Int), .int .u64 (wd n13 2 : Int), .int .u64 (wd n13 3 : Int)] 51] w132 := H134.sub (List.Sublist.cons_cons _ (List.Sublist.cons _ (List.Sublist.cons _ (List.Sublist.slnil))))
    refine GP.semU 11 r133 [5, 16, 17, 36, 37] [(5, .bool false), (16, .pointer (some ⟨p73, 0, none⟩)), (17, .pointer (some ⟨p105, 0, none⟩)), (36, wv (n13 % (x * y))), (37, .int .i64 0)] (by kernel_rfl) rfl rfl (by kernel_rfl) hS135 ?_
    obtain ⟨w136, r137, H138⟩ := H134.stA (P := Try.prog) (o := 0) (vs := [.int .u64 (wd (n13 % (x * y)) 0 : Int), .int .u64 (wd (n13 % (x * y)) 1 : Int), .int .u64 (wd (n13 % (x * y)) 2 : Int), .int .u64 (wd (n13 % (x * y)) 3 : Int)]) (ty := 51) (m := 4) 2 rfl (by kernel_rfl) rfl (by simp) (by simp [Value.oneCell'])
    have H138 : Hp w [] [.blk p15 [.int .u64 (wd n13 0 : Int), .int .u64 (wd n13 1 : Int), .int .u64 (wd n13 2 : Int), .int .u64 (wd n13 3 : Int)] 51, .blk p73 [.int .u64 (wd (n13 / (x * y)) 0 : Int), .int .u64 (wd (n13 / (x * y)) 1 : Int), .int .u64 (wd (n13 / (x * y)) 2 : Int), .int .u64 (wd (n13 / (x * y)) 3 : Int)] 51, .blk p105 [.int .u64 (wd (n13 % (x * y)) 0 : Int), .int .u64 (wd (n13 % (x * y)) 1 : Int), .int .u64 (wd (n13 % (x * y)) 2 : Int), .int .u64 (wd (n13 % (x * y)) 3 : Int)] 51] w136 := H138
    have hS139 : Hp w [] [.blk p15 [.int .u64 (wd n13 0 : Int), .int .u64 (wd n13 1 : Int), .int .u64 (wd n13 2 : Int), .int .u64 (wd n13 3 : Int)] 51] w136 := H138.sub (List.Sublist.cons_cons _ (List.Sublist.cons _ (List.Sublist.cons _ (List.Sublist.slnil))))
    refine GP.semU 12 r137 [5, 16, 17, 37] [(5, .bool false), (16, .pointer (some ⟨p73, 0, none⟩)), (17, .pointer (some ⟨p105, 0, none⟩)), (37, .int .i64 0)] (by kernel_rfl) rfl rfl (by kernel_rfl) hS139 ?_
    refine GP.run [13] [5, 16, 17, 18] [(5, .bool false), (16, .pointer (some ⟨p73, 0, none⟩)), (17, .pointer (some ⟨p105, 0, none⟩)), (18, .int .i64 0)] [0, 1, 2, 3, 4, 5, 6, 7, 8, 9, 10, 11, 12, 13] (by kernel_rfl) rfl hS139 ?_
    refine GP.k (by kernel_rfl) hK23 (fun _ _ h => h) ?_
    refine G.seqK fun K140 hK141 => ?_
    refine G.seqK fun K142 hK143 => ?_
    refine G.region ?_
    refine GL.run (j := 2) 2 [5, 16, 17, 18, 39] [(5, .bool false), (16, .pointer (some ⟨p73, 0, none⟩)), (17, .pointer (some ⟨p105, 0, none⟩)), (18, .int .i64 0), (39, .bool false)] (by kernel_rfl) rfl ?_
    refine GL.k rfl hK143 (fun _ _ h => h) ?_
    refine G.no rfl ?_
    refine G.skipK hK141 (fun _ _ h => h) ?_
    refine G.seqK fun K144 hK145 => ?_
    refine G.seqK fun K146 hK147 => ?_
    refine G.region ?_
    refine GL.run (j := 6) 6 [16, 46] [(16, .pointer (some ⟨p73, 0, none⟩)), (46, .bool false)] (by kernel_rfl) rfl ?_
    refine GL.k rfl hK147 (fun _ _ h => h) ?_
    refine G.no rfl ?_
    refine G.skipK hK145 (fun _ _ h => h) ?_
    refine G.seqK fun K148 hK149 => ?_
    refine G.region ?_
    refine GL.sem (j := 1) (H138.ldA (o := 0) (ty := 51) (m := 4) (sub := [.int .u64 (wd (n13 / (x * y)) 0 : Int), .int .u64 (wd (n13 / (x * y)) 1 : Int), .int .u64 (wd (n13 / (x * y)) 2 : Int), .int .u64 (wd (n13 / (x * y)) 3 : Int)]) 1 rfl (by kernel_rfl) rfl rfl) [54] [(54, wv (n13 / (x * y)))] (by kernel_rfl) (by kernel_rfl) rfl ?_
    refine GL.call (j := 2) (Uint_calls (n13 / (x * y)) (Nat.lt_of_le_of_lt (Nat.div_le_self _ _) n13l) w136) (by kernel_rfl) rfl (fun e_ w150 hR => ?_)
    obtain ⟨he_, H152⟩ := hR
    subst he_
    have H151 : Hp w [] [.blk p15 [.int .u64 (wd n13 0 : Int), .int .u64 (wd n13 1 : Int), .int .u64 (wd n13 2 : Int), .int .u64 (wd n13 3 : Int)] 51, .blk p73 [.int .u64 (wd (n13 / (x * y)) 0 : Int), .int .u64 (wd (n13 / (x * y)) 1 : Int), .int .u64 (wd (n13 / (x * y)) 2 : Int), .int .u64 (wd (n13 / (x * y)) 3 : Int)] 51, .blk p105 [.int .u64 (wd (n13 % (x * y)) 0 : Int), .int .u64 (wd (n13 % (x * y)) 1 : Int), .int .u64 (wd (n13 % (x * y)) 2 : Int), .int .u64 (wd (n13 % (x * y)) 3 : Int)] 51] w150 := H138.callNil H152
    refine ⟨_, rfl, [55], [(55, .tuple #[.int .u64 (((oneW (n13 / (x * y))) : Nat) : Int), .bool (decide ((n13 / (x * y)) < K))])], by kernel_rfl, ?_⟩
    refine GL.run (j := 7) 5 [19, 20] [(19, .int .u64 (((oneW (n13 / (x * y))) : Nat) : Int)), (20, .bool (decide ((n13 / (x * y)) < K)))] (by kernel_rfl) rfl ?_
    refine GL.k rfl hK149 (fun _ _ h => h) ?_
    refine G.seqK fun K153 hK154 => ?_
    refine G.seqK fun K155 hK156 => ?_
    refine G.region ?_
    refine GL.run (j := 3) 3 [19, 60] [(19, .int .u64 (((oneW (n13 / (x * y))) : Nat) : Int)), (60, .bool (!(decide ((n13 / (x * y)) < K))))] (by kernel_rfl) rfl ?_
    cases hb157 : (decide ((n13 / (x * y)) < K))
    · skip
      have hb157f := of_decide_eq_false hb157
      refine GL.run (j := 7) 4 [19, 64] [(19, .int .u64 (((oneW (n13 / (x * y))) : Nat) : Int)), (64, .bool true)] (by kernel_rfl) rfl ?_
      refine GL.k rfl hK156 (fun _ _ h => h) ?_
      refine G.yes rfl ?_
      refine G.seqK fun K158 hK159 => ?_
      refine G.region ?_
      refine GL.run (j := 2) 2 [12, 13] [(12, .int .u64 0), (13, .int .i64 4)] (by kernel_rfl) rfl ?_
      refine GL.k rfl hK159 (fun _ _ h => h) ?_
      refine G.ret ?_
      intro F_ hF_ hM_
      refine hRet _ _ (bodyPost_2 rfl (RV.tmp rfl) (RV.tmp rfl) ?_ F_ hF_ hM_)
      have h2 : n13 = a * b * c := by rw [hn14, hn9, Nat.mod_eq_of_lt (show a * b * c < K4 by omega)]
      have hX : divQ (a * b * c) (x * y) false = (n13 / (x * y)) := by rw [divQ_down, h2]
      have c0 := oneW_cases (n13 / (x * y))
      obtain ⟨e1, e2⟩ := div_over hX (by omega)
      rw [divE, e1, e2]
      exact ⟨rfl, H151.sub (List.nil_sublist _)⟩
    · skip
      have hb157f := of_decide_eq_true hb157
      refine GL.run (j := 4) 1 [19, 60, 61] [(19, .int .u64 (((oneW (n13 / (x * y))) : Nat) : Int)), (60, .bool false), (61, .int .u64 (((oneW (n13 / (x * y))) : Nat) : Int))] (by kernel_rfl) rfl ?_
      refine GL.call (j := 5) (Right_calls (oneW (n13 / (x * y))) w150) (by kernel_rfl) rfl (fun e_ w160 hR => ?_)
      obtain ⟨rfl, H162⟩ := hR
      have H161 : Hp w [] [.blk p15 [.int .u64 (wd n13 0 : Int), .int .u64 (wd n13 1 : Int), .int .u64 (wd n13 2 : Int), .int .u64 (wd n13 3 : Int)] 51, .blk p73 [.int .u64 (wd (n13 / (x * y)) 0 : Int), .int .u64 (wd (n13 / (x * y)) 1 : Int), .int .u64 (wd (n13 / (x * y)) 2 : Int), .int .u64 (wd (n13 / (x * y)) 3 : Int)] 51, .blk p105 [.int .u64 (wd (n13 % (x * y)) 0 : Int), .int .u64 (wd (n13 % (x * y)) 1 : Int), .int .u64 (wd (n13 % (x * y)) 2 : Int), .int .u64 (wd (n13 % (x * y)) 3 : Int)] 51] w160 := H151.callNil H162
      refine ⟨_, rfl, [19, 60, 62], [(19, .int .u64 (((oneW (n13 / (x * y))) : Nat) : Int)), (60, .bool false), (62, .bool (decide (((oneW (n13 / (x * y))) : Int) ≤ 4611686018427387904)))], by kernel_rfl, ?_⟩
      refine GL.run (j := 7) 2 [19, 64] [(19, .int .u64 (((oneW (n13 / (x * y))) : Nat) : Int)), (64, .bool (!(decide (((oneW (n13 / (x * y))) : Int) ≤ 4611686018427387904))))] (by kernel_rfl) rfl ?_
      refine GL.k rfl hK156 (fun _ _ h => h) ?_
      cases hb163 : (decide (((oneW (n13 / (x * y))) : Int) ≤ 4611686018427387904))
      · skip
        have hb163f := of_decide_eq_false hb163
        refine G.yes rfl ?_
        refine G.seqK fun K164 hK165 => ?_
        refine G.region ?_
        refine GL.run (j := 2) 2 [12, 13] [(12, .int .u64 0), (13, .int .i64 4)] (by kernel_rfl) rfl ?_
        refine GL.k rfl hK165 (fun _ _ h => h) ?_
        refine G.ret ?_
        intro F_ hF_ hM_
        refine hRet _ _ (bodyPost_2 rfl (RV.tmp rfl) (RV.tmp rfl) ?_ F_ hF_ hM_)
        have h2 : n13 = a * b * c := by rw [hn14, hn9, Nat.mod_eq_of_lt (show a * b * c < K4 by omega)]
        have hX : divQ (a * b * c) (x * y) false = (n13 / (x * y)) := by rw [divQ_down, h2]
        have c0 := oneW_cases (n13 / (x * y))
        obtain ⟨e1, e2⟩ := div_over hX (by omega)
        rw [divE, e1, e2]
        exact ⟨rfl, H161.sub (List.nil_sublist _)⟩
      · skip
        have hb163f := of_decide_eq_true hb163
        refine G.no rfl ?_
        refine G.skipK hK154 (fun _ _ h => h) ?_
        refine G.seqK fun K166 hK167 => ?_
        refine G.region ?_
        refine GL.run (j := 3) 3 [12, 13] [(12, .int .u64 (((oneW (n13 / (x * y))) : Nat) : Int)), (13, .int .i64 0)] (by kernel_rfl) rfl ?_
        refine GL.k rfl hK167 (fun _ _ h => h) ?_
        refine G.ret ?_
        intro F_ hF_ hM_
        refine hRet _ _ (bodyPost_2 rfl (RV.tmp rfl) (RV.tmp rfl) ?_ F_ hF_ hM_)
        have h2 : n13 = a * b * c := by rw [hn14, hn9, Nat.mod_eq_of_lt (show a * b * c < K4 by omega)]
        have hX : divQ (a * b * c) (x * y) false = (n13 / (x * y)) := by rw [divQ_down, h2]
        have c0 := oneW_cases (n13 / (x * y))
        obtain ⟨e1, e2⟩ := div_fits hX (by omega)
        rw [divE, e1, e2, show oneW (n13 / (x * y)) = (n13 / (x * y)) by omega]
        exact ⟨rfl, H161.sub (List.nil_sublist _)⟩
  have st127 : ∀ (wD_ : World) (p73 : Nat), Hp w [] [.blk p15 [.int .u64 (wd n13 0 : Int), .int .u64 (wd n13 1 : Int), .int .u64 (wd n13 2 : Int), .int .u64 (wd n13 3 : Int)] 51, .blk p73 [.int .u64 0, .int .u64 0, .int .u64 0, .int .u64 0] 51] wD_ → X [0, 1, 2, 3, 4, 5, 6, 7, 8, 9] [(5, .bool false), (16, .pointer (some ⟨p73, 0, none⟩)), (35, wv (n13 / (x * y))), (36, wv (n13 % (x * y))), (37, .int .i64 0)] wD_ := by
    intro wD_ p73 HD_
    rw [hX]
    have hS168 : Hp w [] [.blk p15 [.int .u64 (wd n13 0 : Int), .int .u64 (wd n13 1 : Int), .int .u64 (wd n13 2 : Int), .int .u64 (wd n13 3 : Int)] 51] wD_ := HD_.sub (List.Sublist.cons_cons _ (List.Sublist.cons _ (List.Sublist.slnil)))
    refine GP.all1 10 (by kernel_rfl) ?_
    · skip
      have hS169 : Hp w [] [.blk p15 [.int .u64 (wd n13 0 : Int), .int .u64 (wd n13 1 : Int), .int .u64 (wd n13 2 : Int), .int .u64 (wd n13 3 : Int)] 51] wD_ := HD_.sub (List.Sublist.cons_cons _ (List.Sublist.cons _ (List.Sublist.slnil)))
      obtain ⟨p170, w171, r172, H173⟩ := HD_.alloc (P := Try.prog) 51 [.int .u64 0, .int .u64 0, .int .u64 0, .int .u64 0] (by kernel_rfl)
      have H173 : Hp w [] [.blk p15 [.int .u64 (wd n13 0 : Int), .int .u64 (wd n13 1 : Int), .int .u64 (wd n13 2 : Int), .int .u64 (wd n13 3 : Int)] 51, .blk p73 [.int .u64 0, .int .u64 0, .int .u64 0, .int .u64 0] 51, .blk p170 [.int .u64 0, .int .u64 0, .int .u64 0, .int .u64 0] 51] w171 := H173
      have hS174 : Hp w [] [.blk p15 [.int .u64 (wd n13 0 : Int), .int .u64 (wd n13 1 : Int), .int .u64 (wd n13 2 : Int), .int .u64 (wd n13 3 : Int)] 51] w171 := H173.sub (List.Sublist.cons_cons _ (List.Sublist.cons _ (List.Sublist.cons _ (List.Sublist.slnil))))
      refine GO.made r172 [5, 16, 17, 35, 36, 37] [(5, .bool false), (16, .pointer (some ⟨p73, 0, none⟩)), (17, .pointer (some ⟨p170, 0, none⟩)), (35, wv (n13 / (x * y))), (36, wv (n13 % (x * y))), (37, .int .i64 0)] (by kernel_rfl) (by kernel_rfl) hS174 ?_
      refine GP.perm [0, 1, 2, 3, 4, 5, 6, 7, 8, 9, 10] (by kernel_rfl) rfl ?_
      rw [← hX]
      exact st130 _ p73 p170 H173
  have st128 : ∀ (wD_ : World) (p78 : Nat), Hp w [] [.blk p15 [.int .u64 (wd n13 0 : Int), .int .u64 (wd n13 1 : Int), .int .u64 (wd n13 2 : Int), .int .u64 (wd n13 3 : Int)] 51, .blk p78 [.int .u64 0, .int .u64 0, .int .u64 0, .int .u64 0] 51] wD_ → X [0, 1, 2, 3, 4, 5, 6, 7, 8, 10] [(5, .bool false), (17, .pointer (some ⟨p78, 0, none⟩)), (35, wv (n13 / (x * y))), (36, wv (n13 % (x * y))), (37, .int .i64 0)] wD_ := by
    intro wD_ p78 HD_
    rw [hX]
    have hS175 : Hp w [] [.blk p15 [.int .u64 (wd n13 0 : Int), .int .u64 (wd n13 1 : Int), .int .u64 (wd n13 2 : Int), .int .u64 (wd n13 3 : Int)] 51] wD_ := HD_.sub (List.Sublist.cons_cons _ (List.Sublist.cons _ (List.Sublist.slnil)))
    refine GP.all1 9 (by kernel_rfl) ?_
    · skip
      have hS176 : Hp w [] [.blk p15 [.int .u64 (wd n13 0 : Int), .int .u64 (wd n13 1 : Int), .int .u64 (wd n13 2 : Int), .int .u64 (wd n13 3 : Int)] 51] wD_ := HD_.sub (List.Sublist.cons_cons _ (List.Sublist.cons _ (List.Sublist.slnil)))
      obtain ⟨p177, w178, r179, H180⟩ := HD_.alloc (P := Try.prog) 51 [.int .u64 0, .int .u64 0, .int .u64 0, .int .u64 0] (by kernel_rfl)
      have H180 : Hp w [] [.blk p15 [.int .u64 (wd n13 0 : Int), .int .u64 (wd n13 1 : Int), .int .u64 (wd n13 2 : Int), .int .u64 (wd n13 3 : Int)] 51, .blk p78 [.int .u64 0, .int .u64 0, .int .u64 0, .int .u64 0] 51, .blk p177 [.int .u64 0, .int .u64 0, .int .u64 0, .int .u64 0] 51] w178 := H180
      have hS181 : Hp w [] [.blk p15 [.int .u64 (wd n13 0 : Int), .int .u64 (wd n13 1 : Int), .int .u64 (wd n13 2 : Int), .int .u64 (wd n13 3 : Int)] 51] w178 := H180.sub (List.Sublist.cons_cons _ (List.Sublist.cons _ (List.Sublist.cons _ (List.Sublist.slnil))))
      refine GO.made r179 [5, 16, 17, 35, 36, 37] [(5, .bool false), (16, .pointer (some ⟨p177, 0, none⟩)), (17, .pointer (some ⟨p78, 0, none⟩)), (35, wv (n13 / (x * y))), (36, wv (n13 % (x * y))), (37, .int .i64 0)] (by kernel_rfl) (by kernel_rfl) hS181 ?_
      have H182 := (Hp.reorder (L' := [.blk p15 [.int .u64 (wd n13 0 : Int), .int .u64 (wd n13 1 : Int), .int .u64 (wd n13 2 : Int), .int .u64 (wd n13 3 : Int)] 51, .blk p177 [.int .u64 0, .int .u64 0, .int .u64 0, .int .u64 0] 51, .blk p78 [.int .u64 0, .int .u64 0, .int .u64 0, .int .u64 0] 51]) H180 (List.Perm.cons _ (List.Perm.trans (List.Perm.swap _ _ _) (List.Perm.refl _))))
      refine GP.perm [0, 1, 2, 3, 4, 5, 6, 7, 8, 9, 10] (by kernel_rfl) rfl ?_
      rw [← hX]
      exact st130 _ p177 p78 H182
  have st129 : ∀ (wD_ : World) (p45 : Nat) (p87 : Nat), Hp w [] [.blk p15 [.int .u64 (wd n13 0 : Int), .int .u64 (wd n13 1 : Int), .int .u64 (wd n13 2 : Int), .int .u64 (wd n13 3 : Int)] 51, .blk p45 [.int .u64 0, .int .u64 0, .int .u64 0, .int .u64 0] 51, .blk p87 [.int .u64 0, .int .u64 0, .int .u64 0, .int .u64 0] 51] wD_ → X [0, 1, 2, 3, 9, 10] [(5, .bool false), (16, .pointer (some ⟨p45, 0, none⟩)), (17, .pointer (some ⟨p87, 0, none⟩)), (30, wv n13), (33, wv (x * y))] wD_ := by
    intro wD_ p45 p87 HD_
    rw [hX]
    have hS183 : Hp w [] [.blk p15 [.int .u64 (wd n13 0 : Int), .int .u64 (wd n13 1 : Int), .int .u64 (wd n13 2 : Int), .int .u64 (wd n13 3 : Int)] 51] wD_ := HD_.sub (List.Sublist.cons_cons _ (List.Sublist.cons _ (List.Sublist.cons _ (List.Sublist.slnil))))
    refine GP.all1 4 (by kernel_rfl) ?_
    · skip
      have hS184 : Hp w [] [.blk p15 [.int .u64 (wd n13 0 : Int), .int .u64 (wd n13 1 : Int), .int .u64 (wd n13 2 : Int), .int .u64 (wd n13 3 : Int)] 51] wD_ := HD_.sub (List.Sublist.cons_cons _ (List.Sublist.cons _ (List.Sublist.cons _ (List.Sublist.slnil))))
      refine GO.call (Div_calls n13 (x * y) n13l (prod_lt hx hy) (hd) wD_) (by kernel_rfl) (fun e_ w185 hR => ?_)
      obtain ⟨rfl, H187⟩ := hR
      have H186 : Hp w [] [.blk p15 [.int .u64 (wd n13 0 : Int), .int .u64 (wd n13 1 : Int), .int .u64 (wd n13 2 : Int), .int .u64 (wd n13 3 : Int)] 51, .blk p45 [.int .u64 0, .int .u64 0, .int .u64 0, .int .u64 0] 51, .blk p87 [.int .u64 0, .int .u64 0, .int .u64 0, .int .u64 0] 51] w185 := HD_.callNil H187
      have hS188 : Hp w [] [.blk p15 [.int .u64 (wd n13 0 : Int), .int .u64 (wd n13 1 : Int), .int .u64 (wd n13 2 : Int), .int .u64 (wd n13 3 : Int)] 51] w185 := H186.sub (List.Sublist.cons_cons _ (List.Sublist.cons _ (List.Sublist.cons _ (List.Sublist.slnil))))
      refine ⟨_, rfl, hS188, [5, 16, 17, 34], [(5, .bool false), (16, .pointer (some ⟨p45, 0, none⟩)), (17, .pointer (some ⟨p87, 0, none⟩)), (34, .tuple #[wv (n13 / (x * y)), wv (n13 % (x * y)), .int .i64 0])], by kernel_rfl, ?_⟩
      refine GP.run [5, 6, 7, 8] [5, 16, 17, 35, 36, 37] [(5, .bool false), (16, .pointer (some ⟨p45, 0, none⟩)), (17, .pointer (some ⟨p87, 0, none⟩)), (35, wv (n13 / (x * y))), (36, wv (n13 % (x * y))), (37, .int .i64 0)] [0, 1, 2, 3, 9, 10, 4, 5, 6, 7, 8] (by kernel_rfl) rfl hS188 ?_
      refine GP.perm [0, 1, 2, 3, 4, 5, 6, 7, 8, 9, 10] (by kernel_rfl) rfl ?_
      rw [← hX]
      exact st130 _ p45 p87 H186
  have st123 : ∀ (wD_ : World), Hp w [] [.blk p15 [.int .u64 (wd n13 0 : Int), .int .u64 (wd n13 1 : Int), .int .u64 (wd n13 2 : Int), .int .u64 (wd n13 3 : Int)] 51] wD_ → X [0, 1, 2, 3, 4, 5, 6, 7, 8] [(5, .bool false), (35, wv (n13 / (x * y))), (36, wv (n13 % (x * y))), (37, .int .i64 0)] wD_ := by
    intro wD_ HD_
    rw [hX]
    have hS189 : Hp w [] [.blk p15 [.int .u64 (wd n13 0 : Int), .int .u64 (wd n13 1 : Int), .int .u64 (wd n13 2 : Int), .int .u64 (wd n13 3 : Int)] 51] wD_ := HD_.sub (List.Sublist.cons_cons _ (List.Sublist.slnil))
    refine GP.all2 9 10 (by kernel_rfl) ?_ ?_
    · skip
      have hS190 : Hp w [] [.blk p15 [.int .u64 (wd n13 0 : Int), .int .u64 (wd n13 1 : Int), .int .u64 (wd n13 2 : Int), .int .u64 (wd n13 3 : Int)] 51] wD_ := HD_.sub (List.Sublist.cons_cons _ (List.Sublist.slnil))
      obtain ⟨p191, w192, r193, H194⟩ := HD_.alloc (P := Try.prog) 51 [.int .u64 0, .int .u64 0, .int .u64 0, .int .u64 0] (by kernel_rfl)
      have H194 : Hp w [] [.blk p15 [.int .u64 (wd n13 0 : Int), .int .u64 (wd n13 1 : Int), .int .u64 (wd n13 2 : Int), .int .u64 (wd n13 3 : Int)] 51, .blk p191 [.int .u64 0, .int .u64 0, .int .u64 0, .int .u64 0] 51] w192 := H194
      have hS195 : Hp w [] [.blk p15 [.int .u64 (wd n13 0 : Int), .int .u64 (wd n13 1 : Int), .int .u64 (wd n13 2 : Int), .int .u64 (wd n13 3 : Int)] 51] w192 := H194.sub (List.Sublist.cons_cons _ (List.Sublist.cons _ (List.Sublist.slnil)))
      refine GO.made r193 [5, 16, 35, 36, 37] [(5, .bool false), (16, .pointer (some ⟨p191, 0, none⟩)), (35, wv (n13 / (x * y))), (36, wv (n13 % (x * y))), (37, .int .i64 0)] (by kernel_rfl) (by kernel_rfl) hS195 ?_
      refine GP.perm [0, 1, 2, 3, 4, 5, 6, 7, 8, 9] (by kernel_rfl) rfl ?_
      rw [← hX]
      exact st127 _ p191 H194
    · skip
      have hS196 : Hp w [] [.blk p15 [.int .u64 (wd n13 0 : Int), .int .u64 (wd n13 1 : Int), .int .u64 (wd n13 2 : Int), .int .u64 (wd n13 3 : Int)] 51] wD_ := HD_.sub (List.Sublist.cons_cons _ (List.Sublist.slnil))
      obtain ⟨p197, w198, r199, H200⟩ := HD_.alloc (P := Try.prog) 51 [.int .u64 0, .int .u64 0, .int .u64 0, .int .u64 0] (by kernel_rfl)
      have H200 : Hp w [] [.blk p15 [.int .u64 (wd n13 0 : Int), .int .u64 (wd n13 1 : Int), .int .u64 (wd n13 2 : Int), .int .u64 (wd n13 3 : Int)] 51, .blk p197 [.int .u64 0, .int .u64 0, .int .u64 0, .int .u64 0] 51] w198 := H200
      have hS201 : Hp w [] [.blk p15 [.int .u64 (wd n13 0 : Int), .int .u64 (wd n13 1 : Int), .int .u64 (wd n13 2 : Int), .int .u64 (wd n13 3 : Int)] 51] w198 := H200.sub (List.Sublist.cons_cons _ (List.Sublist.cons _ (List.Sublist.slnil)))
      refine GO.made r199 [5, 17, 35, 36, 37] [(5, .bool false), (17, .pointer (some ⟨p197, 0, none⟩)), (35, wv (n13 / (x * y))), (36, wv (n13 % (x * y))), (37, .int .i64 0)] (by kernel_rfl) (by kernel_rfl) hS201 ?_
      refine GP.perm [0, 1, 2, 3, 4, 5, 6, 7, 8, 10] (by kernel_rfl) rfl ?_
      rw [← hX]
      exact st128 _ p197 H200
  have st124 : ∀ (wD_ : World) (p45 : Nat), Hp w [] [.blk p15 [.int .u64 (wd n13 0 : Int), .int .u64 (wd n13 1 : Int), .int .u64 (wd n13 2 : Int), .int .u64 (wd n13 3 : Int)] 51, .blk p45 [.int .u64 0, .int .u64 0, .int .u64 0, .int .u64 0] 51] wD_ → X [0, 1, 2, 3, 9] [(5, .bool false), (16, .pointer (some ⟨p45, 0, none⟩)), (30, wv n13), (33, wv (x * y))] wD_ := by
    intro wD_ p45 HD_
    rw [hX]
    have hS202 : Hp w [] [.blk p15 [.int .u64 (wd n13 0 : Int), .int .u64 (wd n13 1 : Int), .int .u64 (wd n13 2 : Int), .int .u64 (wd n13 3 : Int)] 51] wD_ := HD_.sub (List.Sublist.cons_cons _ (List.Sublist.cons _ (List.Sublist.slnil)))
    refine GP.all2 4 10 (by kernel_rfl) ?_ ?_
    · skip
      have hS203 : Hp w [] [.blk p15 [.int .u64 (wd n13 0 : Int), .int .u64 (wd n13 1 : Int), .int .u64 (wd n13 2 : Int), .int .u64 (wd n13 3 : Int)] 51] wD_ := HD_.sub (List.Sublist.cons_cons _ (List.Sublist.cons _ (List.Sublist.slnil)))
      refine GO.call (Div_calls n13 (x * y) n13l (prod_lt hx hy) (hd) wD_) (by kernel_rfl) (fun e_ w204 hR => ?_)
      obtain ⟨rfl, H206⟩ := hR
      have H205 : Hp w [] [.blk p15 [.int .u64 (wd n13 0 : Int), .int .u64 (wd n13 1 : Int), .int .u64 (wd n13 2 : Int), .int .u64 (wd n13 3 : Int)] 51, .blk p45 [.int .u64 0, .int .u64 0, .int .u64 0, .int .u64 0] 51] w204 := HD_.callNil H206
      have hS207 : Hp w [] [.blk p15 [.int .u64 (wd n13 0 : Int), .int .u64 (wd n13 1 : Int), .int .u64 (wd n13 2 : Int), .int .u64 (wd n13 3 : Int)] 51] w204 := H205.sub (List.Sublist.cons_cons _ (List.Sublist.cons _ (List.Sublist.slnil)))
      refine ⟨_, rfl, hS207, [5, 16, 34], [(5, .bool false), (16, .pointer (some ⟨p45, 0, none⟩)), (34, .tuple #[wv (n13 / (x * y)), wv (n13 % (x * y)), .int .i64 0])], by kernel_rfl, ?_⟩
      refine GP.run [5, 6, 7, 8] [5, 16, 35, 36, 37] [(5, .bool false), (16, .pointer (some ⟨p45, 0, none⟩)), (35, wv (n13 / (x * y))), (36, wv (n13 % (x * y))), (37, .int .i64 0)] [0, 1, 2, 3, 9, 4, 5, 6, 7, 8] (by kernel_rfl) rfl hS207 ?_
      refine GP.perm [0, 1, 2, 3, 4, 5, 6, 7, 8, 9] (by kernel_rfl) rfl ?_
      rw [← hX]
      exact st127 _ p45 H205
    · skip
      have hS208 : Hp w [] [.blk p15 [.int .u64 (wd n13 0 : Int), .int .u64 (wd n13 1 : Int), .int .u64 (wd n13 2 : Int), .int .u64 (wd n13 3 : Int)] 51] wD_ := HD_.sub (List.Sublist.cons_cons _ (List.Sublist.cons _ (List.Sublist.slnil)))
      obtain ⟨p209, w210, r211, H212⟩ := HD_.alloc (P := Try.prog) 51 [.int .u64 0, .int .u64 0, .int .u64 0, .int .u64 0] (by kernel_rfl)
      have H212 : Hp w [] [.blk p15 [.int .u64 (wd n13 0 : Int), .int .u64 (wd n13 1 : Int), .int .u64 (wd n13 2 : Int), .int .u64 (wd n13 3 : Int)] 51, .blk p45 [.int .u64 0, .int .u64 0, .int .u64 0, .int .u64 0] 51, .blk p209 [.int .u64 0, .int .u64 0, .int .u64 0, .int .u64 0] 51] w210 := H212
      have hS213 : Hp w [] [.blk p15 [.int .u64 (wd n13 0 : Int), .int .u64 (wd n13 1 : Int), .int .u64 (wd n13 2 : Int), .int .u64 (wd n13 3 : Int)] 51] w210 := H212.sub (List.Sublist.cons_cons _ (List.Sublist.cons _ (List.Sublist.cons _ (List.Sublist.slnil))))
      refine GO.made r211 [5, 16, 17, 30, 33] [(5, .bool false), (16, .pointer (some ⟨p45, 0, none⟩)), (17, .pointer (some ⟨p209, 0, none⟩)), (30, wv n13), (33, wv (x * y))] (by kernel_rfl) (by kernel_rfl) hS213 ?_
      refine GP.perm [0, 1, 2, 3, 9, 10] (by kernel_rfl) rfl ?_
      rw [← hX]
      exact st129 _ p45 p209 H212
  have st125 : ∀ (wD_ : World) (p50 : Nat), Hp w [] [.blk p15 [.int .u64 (wd n13 0 : Int), .int .u64 (wd n13 1 : Int), .int .u64 (wd n13 2 : Int), .int .u64 (wd n13 3 : Int)] 51, .blk p50 [.int .u64 0, .int .u64 0, .int .u64 0, .int .u64 0] 51] wD_ → X [0, 1, 2, 3, 10] [(5, .bool false), (17, .pointer (some ⟨p50, 0, none⟩)), (30, wv n13), (33, wv (x * y))] wD_ := by
    intro wD_ p50 HD_
    rw [hX]
    have hS214 : Hp w [] [.blk p15 [.int .u64 (wd n13 0 : Int), .int .u64 (wd n13 1 : Int), .int .u64 (wd n13 2 : Int), .int .u64 (wd n13 3 : Int)] 51] wD_ := HD_.sub (List.Sublist.cons_cons _ (List.Sublist.cons _ (List.Sublist.slnil)))
    refine GP.all2 4 9 (by kernel_rfl) ?_ ?_
    · skip
      have hS215 : Hp w [] [.blk p15 [.int .u64 (wd n13 0 : Int), .int .u64 (wd n13 1 : Int), .int .u64 (wd n13 2 : Int), .int .u64 (wd n13 3 : Int)] 51] wD_ := HD_.sub (List.Sublist.cons_cons _ (List.Sublist.cons _ (List.Sublist.slnil)))
      refine GO.call (Div_calls n13 (x * y) n13l (prod_lt hx hy) (hd) wD_) (by kernel_rfl) (fun e_ w216 hR => ?_)
      obtain ⟨rfl, H218⟩ := hR
      have H217 : Hp w [] [.blk p15 [.int .u64 (wd n13 0 : Int), .int .u64 (wd n13 1 : Int), .int .u64 (wd n13 2 : Int), .int .u64 (wd n13 3 : Int)] 51, .blk p50 [.int .u64 0, .int .u64 0, .int .u64 0, .int .u64 0] 51] w216 := HD_.callNil H218
      have hS219 : Hp w [] [.blk p15 [.int .u64 (wd n13 0 : Int), .int .u64 (wd n13 1 : Int), .int .u64 (wd n13 2 : Int), .int .u64 (wd n13 3 : Int)] 51] w216 := H217.sub (List.Sublist.cons_cons _ (List.Sublist.cons _ (List.Sublist.slnil)))
      refine ⟨_, rfl, hS219, [5, 17, 34], [(5, .bool false), (17, .pointer (some ⟨p50, 0, none⟩)), (34, .tuple #[wv (n13 / (x * y)), wv (n13 % (x * y)), .int .i64 0])], by kernel_rfl, ?_⟩
      refine GP.run [5, 6, 7, 8] [5, 17, 35, 36, 37] [(5, .bool false), (17, .pointer (some ⟨p50, 0, none⟩)), (35, wv (n13 / (x * y))), (36, wv (n13 % (x * y))), (37, .int .i64 0)] [0, 1, 2, 3, 10, 4, 5, 6, 7, 8] (by kernel_rfl) rfl hS219 ?_
      refine GP.perm [0, 1, 2, 3, 4, 5, 6, 7, 8, 10] (by kernel_rfl) rfl ?_
      rw [← hX]
      exact st128 _ p50 H217
    · skip
      have hS220 : Hp w [] [.blk p15 [.int .u64 (wd n13 0 : Int), .int .u64 (wd n13 1 : Int), .int .u64 (wd n13 2 : Int), .int .u64 (wd n13 3 : Int)] 51] wD_ := HD_.sub (List.Sublist.cons_cons _ (List.Sublist.cons _ (List.Sublist.slnil)))
      obtain ⟨p221, w222, r223, H224⟩ := HD_.alloc (P := Try.prog) 51 [.int .u64 0, .int .u64 0, .int .u64 0, .int .u64 0] (by kernel_rfl)
      have H224 : Hp w [] [.blk p15 [.int .u64 (wd n13 0 : Int), .int .u64 (wd n13 1 : Int), .int .u64 (wd n13 2 : Int), .int .u64 (wd n13 3 : Int)] 51, .blk p50 [.int .u64 0, .int .u64 0, .int .u64 0, .int .u64 0] 51, .blk p221 [.int .u64 0, .int .u64 0, .int .u64 0, .int .u64 0] 51] w222 := H224
      have hS225 : Hp w [] [.blk p15 [.int .u64 (wd n13 0 : Int), .int .u64 (wd n13 1 : Int), .int .u64 (wd n13 2 : Int), .int .u64 (wd n13 3 : Int)] 51] w222 := H224.sub (List.Sublist.cons_cons _ (List.Sublist.cons _ (List.Sublist.cons _ (List.Sublist.slnil))))
      refine GO.made r223 [5, 16, 17, 30, 33] [(5, .bool false), (16, .pointer (some ⟨p221, 0, none⟩)), (17, .pointer (some ⟨p50, 0, none⟩)), (30, wv n13), (33, wv (x * y))] (by kernel_rfl) (by kernel_rfl) hS225 ?_
      have H226 := (Hp.reorder (L' := [.blk p15 [.int .u64 (wd n13 0 : Int), .int .u64 (wd n13 1 : Int), .int .u64 (wd n13 2 : Int), .int .u64 (wd n13 3 : Int)] 51, .blk p221 [.int .u64 0, .int .u64 0, .int .u64 0, .int .u64 0] 51, .blk p50 [.int .u64 0, .int .u64 0, .int .u64 0, .int .u64 0] 51]) H224 (List.Perm.cons _ (List.Perm.trans (List.Perm.swap _ _ _) (List.Perm.refl _))))
      refine GP.perm [0, 1, 2, 3, 9, 10] (by kernel_rfl) rfl ?_
      rw [← hX]
      exact st129 _ p221 p50 H226
  have st126 : ∀ (wD_ : World) (p31 : Nat) (p59 : Nat), Hp w [] [.blk p15 [.int .u64 (wd n13 0 : Int), .int .u64 (wd n13 1 : Int), .int .u64 (wd n13 2 : Int), .int .u64 (wd n13 3 : Int)] 51, .blk p31 [.int .u64 0, .int .u64 0, .int .u64 0, .int .u64 0] 51, .blk p59 [.int .u64 0, .int .u64 0, .int .u64 0, .int .u64 0] 51] wD_ → X [0, 1, 2, 9, 10] [(5, .bool false), (16, .pointer (some ⟨p31, 0, none⟩)), (17, .pointer (some ⟨p59, 0, none⟩)), (30, wv n13), (31, .int .u64 (x : Int)), (32, .int .u64 (y : Int))] wD_ := by
    intro wD_ p31 p59 HD_
    rw [hX]
    have hS227 : Hp w [] [.blk p15 [.int .u64 (wd n13 0 : Int), .int .u64 (wd n13 1 : Int), .int .u64 (wd n13 2 : Int), .int .u64 (wd n13 3 : Int)] 51] wD_ := HD_.sub (List.Sublist.cons_cons _ (List.Sublist.cons _ (List.Sublist.cons _ (List.Sublist.slnil))))
    refine GP.all1 3 (by kernel_rfl) ?_
    · skip
      have hS228 : Hp w [] [.blk p15 [.int .u64 (wd n13 0 : Int), .int .u64 (wd n13 1 : Int), .int .u64 (wd n13 2 : Int), .int .u64 (wd n13 3 : Int)] 51] wD_ := HD_.sub (List.Sublist.cons_cons _ (List.Sublist.cons _ (List.Sublist.cons _ (List.Sublist.slnil))))
      refine GO.call (Product_calls x y hx hy wD_) (by kernel_rfl) (fun e_ w229 hR => ?_)
      obtain ⟨rfl, H231⟩ := hR
      have H230 : Hp w [] [.blk p15 [.int .u64 (wd n13 0 : Int), .int .u64 (wd n13 1 : Int), .int .u64 (wd n13 2 : Int), .int .u64 (wd n13 3 : Int)] 51, .blk p31 [.int .u64 0, .int .u64 0, .int .u64 0, .int .u64 0] 51, .blk p59 [.int .u64 0, .int .u64 0, .int .u64 0, .int .u64 0] 51] w229 := HD_.callNil H231
      have hS232 : Hp w [] [.blk p15 [.int .u64 (wd n13 0 : Int), .int .u64 (wd n13 1 : Int), .int .u64 (wd n13 2 : Int), .int .u64 (wd n13 3 : Int)] 51] w229 := H230.sub (List.Sublist.cons_cons _ (List.Sublist.cons _ (List.Sublist.cons _ (List.Sublist.slnil))))
      refine ⟨_, rfl, hS232, [5, 16, 17, 30, 33], [(5, .bool false), (16, .pointer (some ⟨p31, 0, none⟩)), (17, .pointer (some ⟨p59, 0, none⟩)), (30, wv n13), (33, wv (x * y))], by kernel_rfl, ?_⟩
      refine GP.perm [0, 1, 2, 3, 9, 10] (by kernel_rfl) rfl ?_
      rw [← hX]
      exact st129 _ p31 p59 H230
  have st120 : ∀ (wD_ : World), Hp w [] [.blk p15 [.int .u64 (wd n13 0 : Int), .int .u64 (wd n13 1 : Int), .int .u64 (wd n13 2 : Int), .int .u64 (wd n13 3 : Int)] 51] wD_ → X [0, 1, 2, 3] [(5, .bool false), (30, wv n13), (33, wv (x * y))] wD_ := by
    intro wD_ HD_
    rw [hX]
    have hS233 : Hp w [] [.blk p15 [.int .u64 (wd n13 0 : Int), .int .u64 (wd n13 1 : Int), .int .u64 (wd n13 2 : Int), .int .u64 (wd n13 3 : Int)] 51] wD_ := HD_.sub (List.Sublist.cons_cons _ (List.Sublist.slnil))
    refine GP.all3 4 9 10 (by kernel_rfl) ?_ ?_ ?_
    · skip
      have hS234 : Hp w [] [.blk p15 [.int .u64 (wd n13 0 : Int), .int .u64 (wd n13 1 : Int), .int .u64 (wd n13 2 : Int), .int .u64 (wd n13 3 : Int)] 51] wD_ := HD_.sub (List.Sublist.cons_cons _ (List.Sublist.slnil))
      refine GO.call (Div_calls n13 (x * y) n13l (prod_lt hx hy) (hd) wD_) (by kernel_rfl) (fun e_ w235 hR => ?_)
      obtain ⟨rfl, H237⟩ := hR
      have H236 : Hp w [] [.blk p15 [.int .u64 (wd n13 0 : Int), .int .u64 (wd n13 1 : Int), .int .u64 (wd n13 2 : Int), .int .u64 (wd n13 3 : Int)] 51] w235 := HD_.callNil H237
      have hS238 : Hp w [] [.blk p15 [.int .u64 (wd n13 0 : Int), .int .u64 (wd n13 1 : Int), .int .u64 (wd n13 2 : Int), .int .u64 (wd n13 3 : Int)] 51] w235 := H236.sub (List.Sublist.cons_cons _ (List.Sublist.slnil))
      refine ⟨_, rfl, hS238, [5, 34], [(5, .bool false), (34, .tuple #[wv (n13 / (x * y)), wv (n13 % (x * y)), .int .i64 0])], by kernel_rfl, ?_⟩
      refine GP.run [5, 6, 7, 8] [5, 35, 36, 37] [(5, .bool false), (35, wv (n13 / (x * y))), (36, wv (n13 % (x * y))), (37, .int .i64 0)] [0, 1, 2, 3, 4, 5, 6, 7, 8] (by kernel_rfl) rfl hS238 ?_
      refine GP.perm [0, 1, 2, 3, 4, 5, 6, 7, 8] (by kernel_rfl) rfl ?_
      rw [← hX]
      exact st123 _ H236
    · skip
      have hS239 : Hp w [] [.blk p15 [.int .u64 (wd n13 0 : Int), .int .u64 (wd n13 1 : Int), .int .u64 (wd n13 2 : Int), .int .u64 (wd n13 3 : Int)] 51] wD_ := HD_.sub (List.Sublist.cons_cons _ (List.Sublist.slnil))
      obtain ⟨p240, w241, r242, H243⟩ := HD_.alloc (P := Try.prog) 51 [.int .u64 0, .int .u64 0, .int .u64 0, .int .u64 0] (by kernel_rfl)
      have H243 : Hp w [] [.blk p15 [.int .u64 (wd n13 0 : Int), .int .u64 (wd n13 1 : Int), .int .u64 (wd n13 2 : Int), .int .u64 (wd n13 3 : Int)] 51, .blk p240 [.int .u64 0, .int .u64 0, .int .u64 0, .int .u64 0] 51] w241 := H243
      have hS244 : Hp w [] [.blk p15 [.int .u64 (wd n13 0 : Int), .int .u64 (wd n13 1 : Int), .int .u64 (wd n13 2 : Int), .int .u64 (wd n13 3 : Int)] 51] w241 := H243.sub (List.Sublist.cons_cons _ (List.Sublist.cons _ (List.Sublist.slnil)))
      refine GO.made r242 [5, 16, 30, 33] [(5, .bool false), (16, .pointer (some ⟨p240, 0, none⟩)), (30, wv n13), (33, wv (x * y))] (by kernel_rfl) (by kernel_rfl) hS244 ?_
      refine GP.perm [0, 1, 2, 3, 9] (by kernel_rfl) rfl ?_
      rw [← hX]
      exact st124 _ p240 H243
    · skip
      have hS245 : Hp w [] [.blk p15 [.int .u64 (wd n13 0 : Int), .int .u64 (wd n13 1 : Int), .int .u64 (wd n13 2 : Int), .int .u64 (wd n13 3 : Int)] 51] wD_ := HD_.sub (List.Sublist.cons_cons _ (List.Sublist.slnil))
      obtain ⟨p246, w247, r248, H249⟩ := HD_.alloc (P := Try.prog) 51 [.int .u64 0, .int .u64 0, .int .u64 0, .int .u64 0] (by kernel_rfl)
      have H249 : Hp w [] [.blk p15 [.int .u64 (wd n13 0 : Int), .int .u64 (wd n13 1 : Int), .int .u64 (wd n13 2 : Int), .int .u64 (wd n13 3 : Int)] 51, .blk p246 [.int .u64 0, .int .u64 0, .int .u64 0, .int .u64 0] 51] w247 := H249
      have hS250 : Hp w [] [.blk p15 [.int .u64 (wd n13 0 : Int), .int .u64 (wd n13 1 : Int), .int .u64 (wd n13 2 : Int), .int .u64 (wd n13 3 : Int)] 51] w247 := H249.sub (List.Sublist.cons_cons _ (List.Sublist.cons _ (List.Sublist.slnil)))
      refine GO.made r248 [5, 17, 30, 33] [(5, .bool false), (17, .pointer (some ⟨p246, 0, none⟩)), (30, wv n13), (33, wv (x * y))] (by kernel_rfl) (by kernel_rfl) hS250 ?_
      refine GP.perm [0, 1, 2, 3, 10] (by kernel_rfl) rfl ?_
      rw [← hX]
      exact st125 _ p246 H249
  have st121 : ∀ (wD_ : World) (p31 : Nat), Hp w [] [.blk p15 [.int .u64 (wd n13 0 : Int), .int .u64 (wd n13 1 : Int), .int .u64 (wd n13 2 : Int), .int .u64 (wd n13 3 : Int)] 51, .blk p31 [.int .u64 0, .int .u64 0, .int .u64 0, .int .u64 0] 51] wD_ → X [0, 1, 2, 9] [(5, .bool false), (16, .pointer (some ⟨p31, 0, none⟩)), (30, wv n13), (31, .int .u64 (x : Int)), (32, .int .u64 (y : Int))] wD_ := by
    intro wD_ p31 HD_
    rw [hX]
    have hS251 : Hp w [] [.blk p15 [.int .u64 (wd n13 0 : Int), .int .u64 (wd n13 1 : Int), .int .u64 (wd n13 2 : Int), .int .u64 (wd n13 3 : Int)] 51] wD_ := HD_.sub (List.Sublist.cons_cons _ (List.Sublist.cons _ (List.Sublist.slnil)))
    refine GP.all2 3 10 (by kernel_rfl) ?_ ?_
    · skip
      have hS252 : Hp w [] [.blk p15 [.int .u64 (wd n13 0 : Int), .int .u64 (wd n13 1 : Int), .int .u64 (wd n13 2 : Int), .int .u64 (wd n13 3 : Int)] 51] wD_ := HD_.sub (List.Sublist.cons_cons _ (List.Sublist.cons _ (List.Sublist.slnil)))
      refine GO.call (Product_calls x y hx hy wD_) (by kernel_rfl) (fun e_ w253 hR => ?_)
      obtain ⟨rfl, H255⟩ := hR
      have H254 : Hp w [] [.blk p15 [.int .u64 (wd n13 0 : Int), .int .u64 (wd n13 1 : Int), .int .u64 (wd n13 2 : Int), .int .u64 (wd n13 3 : Int)] 51, .blk p31 [.int .u64 0, .int .u64 0, .int .u64 0, .int .u64 0] 51] w253 := HD_.callNil H255
      have hS256 : Hp w [] [.blk p15 [.int .u64 (wd n13 0 : Int), .int .u64 (wd n13 1 : Int), .int .u64 (wd n13 2 : Int), .int .u64 (wd n13 3 : Int)] 51] w253 := H254.sub (List.Sublist.cons_cons _ (List.Sublist.cons _ (List.Sublist.slnil)))
      refine ⟨_, rfl, hS256, [5, 16, 30, 33], [(5, .bool false), (16, .pointer (some ⟨p31, 0, none⟩)), (30, wv n13), (33, wv (x * y))], by kernel_rfl, ?_⟩
      refine GP.perm [0, 1, 2, 3, 9] (by kernel_rfl) rfl ?_
      rw [← hX]
      exact st124 _ p31 H254
    · skip
      have hS257 : Hp w [] [.blk p15 [.int .u64 (wd n13 0 : Int), .int .u64 (wd n13 1 : Int), .int .u64 (wd n13 2 : Int), .int .u64 (wd n13 3 : Int)] 51] wD_ := HD_.sub (List.Sublist.cons_cons _ (List.Sublist.cons _ (List.Sublist.slnil)))
      obtain ⟨p258, w259, r260, H261⟩ := HD_.alloc (P := Try.prog) 51 [.int .u64 0, .int .u64 0, .int .u64 0, .int .u64 0] (by kernel_rfl)
      have H261 : Hp w [] [.blk p15 [.int .u64 (wd n13 0 : Int), .int .u64 (wd n13 1 : Int), .int .u64 (wd n13 2 : Int), .int .u64 (wd n13 3 : Int)] 51, .blk p31 [.int .u64 0, .int .u64 0, .int .u64 0, .int .u64 0] 51, .blk p258 [.int .u64 0, .int .u64 0, .int .u64 0, .int .u64 0] 51] w259 := H261
      have hS262 : Hp w [] [.blk p15 [.int .u64 (wd n13 0 : Int), .int .u64 (wd n13 1 : Int), .int .u64 (wd n13 2 : Int), .int .u64 (wd n13 3 : Int)] 51] w259 := H261.sub (List.Sublist.cons_cons _ (List.Sublist.cons _ (List.Sublist.cons _ (List.Sublist.slnil))))
      refine GO.made r260 [5, 16, 17, 30, 31, 32] [(5, .bool false), (16, .pointer (some ⟨p31, 0, none⟩)), (17, .pointer (some ⟨p258, 0, none⟩)), (30, wv n13), (31, .int .u64 (x : Int)), (32, .int .u64 (y : Int))] (by kernel_rfl) (by kernel_rfl) hS262 ?_
      refine GP.perm [0, 1, 2, 9, 10] (by kernel_rfl) rfl ?_
      rw [← hX]
      exact st126 _ p31 p258 H261
  have st122 : ∀ (wD_ : World) (p36 : Nat), Hp w [] [.blk p15 [.int .u64 (wd n13 0 : Int), .int .u64 (wd n13 1 : Int), .int .u64 (wd n13 2 : Int), .int .u64 (wd n13 3 : Int)] 51, .blk p36 [.int .u64 0, .int .u64 0, .int .u64 0, .int .u64 0] 51] wD_ → X [0, 1, 2, 10] [(5, .bool false), (17, .pointer (some ⟨p36, 0, none⟩)), (30, wv n13), (31, .int .u64 (x : Int)), (32, .int .u64 (y : Int))] wD_ := by
    intro wD_ p36 HD_
    rw [hX]
    have hS263 : Hp w [] [.blk p15 [.int .u64 (wd n13 0 : Int), .int .u64 (wd n13 1 : Int), .int .u64 (wd n13 2 : Int), .int .u64 (wd n13 3 : Int)] 51] wD_ := HD_.sub (List.Sublist.cons_cons _ (List.Sublist.cons _ (List.Sublist.slnil)))
    refine GP.all2 3 9 (by kernel_rfl) ?_ ?_
    · skip
      have hS264 : Hp w [] [.blk p15 [.int .u64 (wd n13 0 : Int), .int .u64 (wd n13 1 : Int), .int .u64 (wd n13 2 : Int), .int .u64 (wd n13 3 : Int)] 51] wD_ := HD_.sub (List.Sublist.cons_cons _ (List.Sublist.cons _ (List.Sublist.slnil)))
      refine GO.call (Product_calls x y hx hy wD_) (by kernel_rfl) (fun e_ w265 hR => ?_)
      obtain ⟨rfl, H267⟩ := hR
      have H266 : Hp w [] [.blk p15 [.int .u64 (wd n13 0 : Int), .int .u64 (wd n13 1 : Int), .int .u64 (wd n13 2 : Int), .int .u64 (wd n13 3 : Int)] 51, .blk p36 [.int .u64 0, .int .u64 0, .int .u64 0, .int .u64 0] 51] w265 := HD_.callNil H267
      have hS268 : Hp w [] [.blk p15 [.int .u64 (wd n13 0 : Int), .int .u64 (wd n13 1 : Int), .int .u64 (wd n13 2 : Int), .int .u64 (wd n13 3 : Int)] 51] w265 := H266.sub (List.Sublist.cons_cons _ (List.Sublist.cons _ (List.Sublist.slnil)))
      refine ⟨_, rfl, hS268, [5, 17, 30, 33], [(5, .bool false), (17, .pointer (some ⟨p36, 0, none⟩)), (30, wv n13), (33, wv (x * y))], by kernel_rfl, ?_⟩
      refine GP.perm [0, 1, 2, 3, 10] (by kernel_rfl) rfl ?_
      rw [← hX]
      exact st125 _ p36 H266
    · skip
      have hS269 : Hp w [] [.blk p15 [.int .u64 (wd n13 0 : Int), .int .u64 (wd n13 1 : Int), .int .u64 (wd n13 2 : Int), .int .u64 (wd n13 3 : Int)] 51] wD_ := HD_.sub (List.Sublist.cons_cons _ (List.Sublist.cons _ (List.Sublist.slnil)))
      obtain ⟨p270, w271, r272, H273⟩ := HD_.alloc (P := Try.prog) 51 [.int .u64 0, .int .u64 0, .int .u64 0, .int .u64 0] (by kernel_rfl)
      have H273 : Hp w [] [.blk p15 [.int .u64 (wd n13 0 : Int), .int .u64 (wd n13 1 : Int), .int .u64 (wd n13 2 : Int), .int .u64 (wd n13 3 : Int)] 51, .blk p36 [.int .u64 0, .int .u64 0, .int .u64 0, .int .u64 0] 51, .blk p270 [.int .u64 0, .int .u64 0, .int .u64 0, .int .u64 0] 51] w271 := H273
      have hS274 : Hp w [] [.blk p15 [.int .u64 (wd n13 0 : Int), .int .u64 (wd n13 1 : Int), .int .u64 (wd n13 2 : Int), .int .u64 (wd n13 3 : Int)] 51] w271 := H273.sub (List.Sublist.cons_cons _ (List.Sublist.cons _ (List.Sublist.cons _ (List.Sublist.slnil))))
      refine GO.made r272 [5, 16, 17, 30, 31, 32] [(5, .bool false), (16, .pointer (some ⟨p270, 0, none⟩)), (17, .pointer (some ⟨p36, 0, none⟩)), (30, wv n13), (31, .int .u64 (x : Int)), (32, .int .u64 (y : Int))] (by kernel_rfl) (by kernel_rfl) hS274 ?_
      have H275 := (Hp.reorder (L' := [.blk p15 [.int .u64 (wd n13 0 : Int), .int .u64 (wd n13 1 : Int), .int .u64 (wd n13 2 : Int), .int .u64 (wd n13 3 : Int)] 51, .blk p270 [.int .u64 0, .int .u64 0, .int .u64 0, .int .u64 0] 51, .blk p36 [.int .u64 0, .int .u64 0, .int .u64 0, .int .u64 0] 51]) H273 (List.Perm.cons _ (List.Perm.trans (List.Perm.swap _ _ _) (List.Perm.refl _))))
      refine GP.perm [0, 1, 2, 9, 10] (by kernel_rfl) rfl ?_
      rw [← hX]
      exact st126 _ p270 p36 H275
  have st119 : ∀ (wD_ : World), Hp w [] [.blk p15 [.int .u64 (wd n13 0 : Int), .int .u64 (wd n13 1 : Int), .int .u64 (wd n13 2 : Int), .int .u64 (wd n13 3 : Int)] 51] wD_ → X [0, 1, 2] [(5, .bool false), (30, wv n13), (31, .int .u64 (x : Int)), (32, .int .u64 (y : Int))] wD_ := by
    intro wD_ HD_
    rw [hX]
    have hS276 : Hp w [] [.blk p15 [.int .u64 (wd n13 0 : Int), .int .u64 (wd n13 1 : Int), .int .u64 (wd n13 2 : Int), .int .u64 (wd n13 3 : Int)] 51] wD_ := HD_.sub (List.Sublist.cons_cons _ (List.Sublist.slnil))
    refine GP.all3 3 9 10 (by kernel_rfl) ?_ ?_ ?_
    · skip
      have hS277 : Hp w [] [.blk p15 [.int .u64 (wd n13 0 : Int), .int .u64 (wd n13 1 : Int), .int .u64 (wd n13 2 : Int), .int .u64 (wd n13 3 : Int)] 51] wD_ := HD_.sub (List.Sublist.cons_cons _ (List.Sublist.slnil))
      refine GO.call (Product_calls x y hx hy wD_) (by kernel_rfl) (fun e_ w278 hR => ?_)
      obtain ⟨rfl, H280⟩ := hR
      have H279 : Hp w [] [.blk p15 [.int .u64 (wd n13 0 : Int), .int .u64 (wd n13 1 : Int), .int .u64 (wd n13 2 : Int), .int .u64 (wd n13 3 : Int)] 51] w278 := HD_.callNil H280
      have hS281 : Hp w [] [.blk p15 [.int .u64 (wd n13 0 : Int), .int .u64 (wd n13 1 : Int), .int .u64 (wd n13 2 : Int), .int .u64 (wd n13 3 : Int)] 51] w278 := H279.sub (List.Sublist.cons_cons _ (List.Sublist.slnil))
      refine ⟨_, rfl, hS281, [5, 30, 33], [(5, .bool false), (30, wv n13), (33, wv (x * y))], by kernel_rfl, ?_⟩
      refine GP.perm [0, 1, 2, 3] (by kernel_rfl) rfl ?_
      rw [← hX]
      exact st120 _ H279
    · skip
      have hS282 : Hp w [] [.blk p15 [.int .u64 (wd n13 0 : Int), .int .u64 (wd n13 1 : Int), .int .u64 (wd n13 2 : Int), .int .u64 (wd n13 3 : Int)] 51] wD_ := HD_.sub (List.Sublist.cons_cons _ (List.Sublist.slnil))
      obtain ⟨p283, w284, r285, H286⟩ := HD_.alloc (P := Try.prog) 51 [.int .u64 0, .int .u64 0, .int .u64 0, .int .u64 0] (by kernel_rfl)
      have H286 : Hp w [] [.blk p15 [.int .u64 (wd n13 0 : Int), .int .u64 (wd n13 1 : Int), .int .u64 (wd n13 2 : Int), .int .u64 (wd n13 3 : Int)] 51, .blk p283 [.int .u64 0, .int .u64 0, .int .u64 0, .int .u64 0] 51] w284 := H286
      have hS287 : Hp w [] [.blk p15 [.int .u64 (wd n13 0 : Int), .int .u64 (wd n13 1 : Int), .int .u64 (wd n13 2 : Int), .int .u64 (wd n13 3 : Int)] 51] w284 := H286.sub (List.Sublist.cons_cons _ (List.Sublist.cons _ (List.Sublist.slnil)))
      refine GO.made r285 [5, 16, 30, 31, 32] [(5, .bool false), (16, .pointer (some ⟨p283, 0, none⟩)), (30, wv n13), (31, .int .u64 (x : Int)), (32, .int .u64 (y : Int))] (by kernel_rfl) (by kernel_rfl) hS287 ?_
      refine GP.perm [0, 1, 2, 9] (by kernel_rfl) rfl ?_
      rw [← hX]
      exact st121 _ p283 H286
    · skip
      have hS288 : Hp w [] [.blk p15 [.int .u64 (wd n13 0 : Int), .int .u64 (wd n13 1 : Int), .int .u64 (wd n13 2 : Int), .int .u64 (wd n13 3 : Int)] 51] wD_ := HD_.sub (List.Sublist.cons_cons _ (List.Sublist.slnil))
      obtain ⟨p289, w290, r291, H292⟩ := HD_.alloc (P := Try.prog) 51 [.int .u64 0, .int .u64 0, .int .u64 0, .int .u64 0] (by kernel_rfl)
      have H292 : Hp w [] [.blk p15 [.int .u64 (wd n13 0 : Int), .int .u64 (wd n13 1 : Int), .int .u64 (wd n13 2 : Int), .int .u64 (wd n13 3 : Int)] 51, .blk p289 [.int .u64 0, .int .u64 0, .int .u64 0, .int .u64 0] 51] w290 := H292
      have hS293 : Hp w [] [.blk p15 [.int .u64 (wd n13 0 : Int), .int .u64 (wd n13 1 : Int), .int .u64 (wd n13 2 : Int), .int .u64 (wd n13 3 : Int)] 51] w290 := H292.sub (List.Sublist.cons_cons _ (List.Sublist.cons _ (List.Sublist.slnil)))
      refine GO.made r291 [5, 17, 30, 31, 32] [(5, .bool false), (17, .pointer (some ⟨p289, 0, none⟩)), (30, wv n13), (31, .int .u64 (x : Int)), (32, .int .u64 (y : Int))] (by kernel_rfl) (by kernel_rfl) hS293 ?_
      refine GP.perm [0, 1, 2, 10] (by kernel_rfl) rfl ?_
      rw [← hX]
      exact st122 _ p289 H292
  exact st119 _ H24
/-- The collateral needed, the parts that there is room for; and why there are none. -/
def needV (a p t : Nat) : Nat := if a ≤ 4611686018427387904 ∧ (1 ≤ p ∧ p ≤ 1099511627776) ∧ (1 ≤ t ∧ t ≤ 1000000) then divV (a * p * t) (100000000 * 1000) true else 0
def needE (a p t : Nat) : Nat := if a ≤ 4611686018427387904 ∧ (1 ≤ p ∧ p ≤ 1099511627776) ∧ (1 ≤ t ∧ t ≤ 1000000) then divE (a * p * t) (100000000 * 1000) true else 1
def roomV (a p t : Nat) : Nat := if a ≤ 4611686018427387904 ∧ (1 ≤ p ∧ p ≤ 1099511627776) ∧ (1 ≤ t ∧ t ≤ 1000000) then divV (a * 100000000 * 1000) (p * t) false else 0
def roomE (a p t : Nat) : Nat := if a ≤ 4611686018427387904 ∧ (1 ≤ p ∧ p ≤ 1099511627776) ∧ (1 ≤ t ∧ t ≤ 1000000) then divE (a * 100000000 * 1000) (p * t) false else 1
theorem Needs_calls (a p t : Nat) (ha : a < K) (hp : p < K) (ht : t < K) (w : World) : Calls Try.prog 20 #[.int .u64 (a : Int), .int .u64 (p : Int), .int .u64 (t : Int)] w fun e w' => e = .returned (.tuple #[.int .u64 ((needV a p t : Nat) : Int), .int .i64 ((needE a p t : Nat) : Int)]) ∧ Hp w [] [] w' := by
  have hMX : MX = 4611686018427387904 := rfl
  have hK0 : K = 18446744073709551616 := rfl
  have hK40 : K4 = 115792089237316195423570985008687907853269984665640564039457584007913129639936 := rfl
  refine calls_G (args := [.int .u64 (a : Int), .int .u64 (p : Int), .int .u64 (t : Int)]) Try.func20 rfl Try.ntmps20 rfl ?_
  intro Q0 hRet hNor hPan
  have H := Hp.start w
  have H : Hp w [] [] w := H
  refine G.seqK fun K1 hK2 => ?_
  refine G.region ?_
  refine GL.run (j := 2) 2 [0, 1, 2] [(0, .int .u64 (a : Int)), (1, .int .u64 (p : Int)), (2, .int .u64 (t : Int))] (by kernel_rfl) rfl ?_
  refine GL.k rfl hK2 (fun _ _ h => h) ?_
  refine G.seqK fun K3 hK4 => ?_
  refine G.seqK fun K5 hK6 => ?_
  refine G.region ?_
  refine GL.run (j := 3) 3 [0, 1, 2, 8, 9, 10] [(0, .int .u64 (a : Int)), (1, .int .u64 (p : Int)), (2, .int .u64 (t : Int)), (8, .int .u64 (p : Int)), (9, .int .u64 (t : Int)), (10, .int .u64 (a : Int))] (by kernel_rfl) rfl ?_
  obtain ⟨p7, w8, r9, H10⟩ := H.made (P := Try.prog) (Instr.buildSlice 66 1 #[(0, .int .u64 (a : Int))]) (fun b_ => .slice (some ⟨b_, 0, none⟩) 1 1) [.int .u64 (a : Int)] 23 (by kernel_rfl)
  have H10 : Hp w [] [.blk p7 [.int .u64 (a : Int)] 23] w8 := H10
  refine GL.sem (j := 4) (r9) [0, 1, 2, 8, 9, 11] [(0, .int .u64 (a : Int)), (1, .int .u64 (p : Int)), (2, .int .u64 (t : Int)), (8, .int .u64 (p : Int)), (9, .int .u64 (t : Int)), (11, .slice (some ⟨p7, 0, none⟩) 1 1)] (by kernel_rfl) (by kernel_rfl) rfl ?_
  refine GL.call (j := 5) (right1_calls p t a (some ⟨p7, 0, none⟩) 1 w8 (H10.rdBlk (o := 0) (xs := [.int .u64 (a : Int)]) 0 1 rfl rfl)) (by kernel_rfl) rfl (fun e_ w11 hR => ?_)
  obtain ⟨rfl, H13⟩ := hR
  have H12 : Hp w [] [.blk p7 [.int .u64 (a : Int)] 23] w11 := H10.callNil H13
  refine ⟨_, rfl, [0, 1, 2, 12], [(0, .int .u64 (a : Int)), (1, .int .u64 (p : Int)), (2, .int .u64 (t : Int)), (12, .bool (decide (a ≤ 4611686018427387904 ∧ (1 ≤ p ∧ p ≤ 1099511627776) ∧ (1 ≤ t ∧ t ≤ 1000000))))], by kernel_rfl, ?_⟩
  refine GL.run (j := 6) 1 [0, 1, 2, 13] [(0, .int .u64 (a : Int)), (1, .int .u64 (p : Int)), (2, .int .u64 (t : Int)), (13, .bool (!(decide (a ≤ 4611686018427387904 ∧ (1 ≤ p ∧ p ≤ 1099511627776) ∧ (1 ≤ t ∧ t ≤ 1000000)))))] (by kernel_rfl) rfl ?_
  refine GL.k rfl hK6 (fun _ _ h => h) ?_
  cases hb14 : (decide (a ≤ 4611686018427387904 ∧ (1 ≤ p ∧ p ≤ 1099511627776) ∧ (1 ≤ t ∧ t ≤ 1000000)))
  · skip
    have hb14f := of_decide_eq_false hb14
    refine G.yes rfl ?_
    refine G.seqK fun K15 hK16 => ?_
    refine G.region ?_
    refine GL.run (j := 2) 2 [6, 7] [(6, .int .u64 0), (7, .int .i64 1)] (by kernel_rfl) rfl ?_
    refine GL.k rfl hK16 (fun _ _ h => h) ?_
    refine G.ret ?_
    intro F_ hF_ hM_
    refine hRet _ _ (bodyPost_2 rfl (RV.tmp rfl) (RV.tmp rfl) ?_ F_ hF_ hM_)
    have c1 : needV a p t = 0 := by rw [needV, if_neg (by omega)]
    have c2 : needE a p t = 1 := by rw [needE, if_neg (by omega)]
    rw [c1, c2]
    exact ⟨rfl, H12.sub (List.nil_sublist _)⟩
  · skip
    have hb14f := of_decide_eq_true hb14
    refine G.no rfl ?_
    refine G.skipK hK4 (fun _ _ h => h) ?_
    refine G.seqK fun K17 hK18 => ?_
    refine G.region ?_
    refine GL.run (j := 3) 3 [14, 15, 16] [(14, .int .u64 (a : Int)), (15, .int .u64 (p : Int)), (16, .int .u64 (t : Int))] (by kernel_rfl) rfl ?_
    refine GL.call (j := 4) (divide_up a p t 100000000 1000 ha hp ht (by decide) (by decide) (by have := prod3 (b := a) (p := p) (t := t) (by omega) (by omega) (by omega); omega) (by decide) w11) (by kernel_rfl) rfl (fun e_ w19 hR => ?_)
    obtain ⟨rfl, H21⟩ := hR
    have H20 : Hp w [] [.blk p7 [.int .u64 (a : Int)] 23] w19 := H12.callNil H21
    refine ⟨_, rfl, [17], [(17, .tuple #[.int .u64 (((divV (a * p * t) (100000000 * 1000) true) : Nat) : Int), .int .i64 (((divE (a * p * t) (100000000 * 1000) true) : Nat) : Int)])], by kernel_rfl, ?_⟩
    refine GL.run (j := 8) 4 [6, 7] [(6, .int .u64 (((divV (a * p * t) (100000000 * 1000) true) : Nat) : Int)), (7, .int .i64 (((divE (a * p * t) (100000000 * 1000) true) : Nat) : Int))] (by kernel_rfl) rfl ?_
    refine GL.k rfl hK18 (fun _ _ h => h) ?_
    refine G.ret ?_
    intro F_ hF_ hM_
    refine hRet _ _ (bodyPost_2 rfl (RV.tmp rfl) (RV.tmp rfl) ?_ F_ hF_ hM_)
    have c1 : needV a p t = (divV (a * p * t) (100000000 * 1000) true) := by rw [needV, if_pos (by omega)]
    have c2 : needE a p t = (divE (a * p * t) (100000000 * 1000) true) := by rw [needE, if_pos (by omega)]
    rw [c1, c2]
    exact ⟨rfl, H20.sub (List.nil_sublist _)⟩
theorem Room_calls (a p t : Nat) (ha : a < K) (hp : p < K) (ht : t < K) (w : World) : Calls Try.prog 21 #[.int .u64 (a : Int), .int .u64 (p : Int), .int .u64 (t : Int)] w fun e w' => e = .returned (.tuple #[.int .u64 ((roomV a p t : Nat) : Int), .int .i64 ((roomE a p t : Nat) : Int)]) ∧ Hp w [] [] w' := by
  have hMX : MX = 4611686018427387904 := rfl
  have hK0 : K = 18446744073709551616 := rfl
  have hK40 : K4 = 115792089237316195423570985008687907853269984665640564039457584007913129639936 := rfl
  refine calls_G (args := [.int .u64 (a : Int), .int .u64 (p : Int), .int .u64 (t : Int)]) Try.func21 rfl Try.ntmps21 rfl ?_
  intro Q0 hRet hNor hPan
  have H := Hp.start w
  have H : Hp w [] [] w := H
  refine G.seqK fun K1 hK2 => ?_
  refine G.region ?_
  refine GL.run (j := 2) 2 [0, 1, 2] [(0, .int .u64 (a : Int)), (1, .int .u64 (p : Int)), (2, .int .u64 (t : Int))] (by kernel_rfl) rfl ?_
  refine GL.k rfl hK2 (fun _ _ h => h) ?_
  refine G.seqK fun K3 hK4 => ?_
  refine G.seqK fun K5 hK6 => ?_
  refine G.region ?_
  refine GL.run (j := 3) 3 [0, 1, 2, 8, 9, 10] [(0, .int .u64 (a : Int)), (1, .int .u64 (p : Int)), (2, .int .u64 (t : Int)), (8, .int .u64 (p : Int)), (9, .int .u64 (t : Int)), (10, .int .u64 (a : Int))] (by kernel_rfl) rfl ?_
  obtain ⟨p7, w8, r9, H10⟩ := H.made (P := Try.prog) (Instr.buildSlice 66 1 #[(0, .int .u64 (a : Int))]) (fun b_ => .slice (some ⟨b_, 0, none⟩) 1 1) [.int .u64 (a : Int)] 23 (by kernel_rfl)
  have H10 : Hp w [] [.blk p7 [.int .u64 (a : Int)] 23] w8 := H10
  refine GL.sem (j := 4) (r9) [0, 1, 2, 8, 9, 11] [(0, .int .u64 (a : Int)), (1, .int .u64 (p : Int)), (2, .int .u64 (t : Int)), (8, .int .u64 (p : Int)), (9, .int .u64 (t : Int)), (11, .slice (some ⟨p7, 0, none⟩) 1 1)] (by kernel_rfl) (by kernel_rfl) rfl ?_
  refine GL.call (j := 5) (right1_calls p t a (some ⟨p7, 0, none⟩) 1 w8 (H10.rdBlk (o := 0) (xs := [.int .u64 (a : Int)]) 0 1 rfl rfl)) (by kernel_rfl) rfl (fun e_ w11 hR => ?_)
  obtain ⟨rfl, H13⟩ := hR
  have H12 : Hp w [] [.blk p7 [.int .u64 (a : Int)] 23] w11 := H10.callNil H13
  refine ⟨_, rfl, [0, 1, 2, 12], [(0, .int .u64 (a : Int)), (1, .int .u64 (p : Int)), (2, .int .u64 (t : Int)), (12, .bool (decide (a ≤ 4611686018427387904 ∧ (1 ≤ p ∧ p ≤ 1099511627776) ∧ (1 ≤ t ∧ t ≤ 1000000))))], by kernel_rfl, ?_⟩
  refine GL.run (j := 6) 1 [0, 1, 2, 13] [(0, .int .u64 (a : Int)), (1, .int .u64 (p : Int)), (2, .int .u64 (t : Int)), (13, .bool (!(decide (a ≤ 4611686018427387904 ∧ (1 ≤ p ∧ p ≤ 1099511627776) ∧ (1 ≤ t ∧ t ≤ 1000000)))))] (by kernel_rfl) rfl ?_
  refine GL.k rfl hK6 (fun _ _ h => h) ?_
  cases hb14 : (decide (a ≤ 4611686018427387904 ∧ (1 ≤ p ∧ p ≤ 1099511627776) ∧ (1 ≤ t ∧ t ≤ 1000000)))
  · skip
    have hb14f := of_decide_eq_false hb14
    refine G.yes rfl ?_
    refine G.seqK fun K15 hK16 => ?_
    refine G.region ?_
    refine GL.run (j := 2) 2 [6, 7] [(6, .int .u64 0), (7, .int .i64 1)] (by kernel_rfl) rfl ?_
    refine GL.k rfl hK16 (fun _ _ h => h) ?_
    refine G.ret ?_
    intro F_ hF_ hM_
    refine hRet _ _ (bodyPost_2 rfl (RV.tmp rfl) (RV.tmp rfl) ?_ F_ hF_ hM_)
    have c1 : roomV a p t = 0 := by rw [roomV, if_neg (by omega)]
    have c2 : roomE a p t = 1 := by rw [roomE, if_neg (by omega)]
    rw [c1, c2]
    exact ⟨rfl, H12.sub (List.nil_sublist _)⟩
  · skip
    have hb14f := of_decide_eq_true hb14
    refine G.no rfl ?_
    refine G.skipK hK4 (fun _ _ h => h) ?_
    refine G.seqK fun K17 hK18 => ?_
    refine G.region ?_
    refine GL.run (j := 3) 3 [14, 15, 16] [(14, .int .u64 (a : Int)), (15, .int .u64 (p : Int)), (16, .int .u64 (t : Int))] (by kernel_rfl) rfl ?_
    refine GL.call (j := 4) (divide_down a 100000000 1000 p t ha (by decide) (by decide) hp ht (by omega) (by have := Nat.mul_pos (show 0 < p by omega) (show 0 < t by omega); omega) w11) (by kernel_rfl) rfl (fun e_ w19 hR => ?_)
    obtain ⟨rfl, H21⟩ := hR
    have H20 : Hp w [] [.blk p7 [.int .u64 (a : Int)] 23] w19 := H12.callNil H21
    refine ⟨_, rfl, [17], [(17, .tuple #[.int .u64 (((divV (a * 100000000 * 1000) (p * t) false) : Nat) : Int), .int .i64 (((divE (a * 100000000 * 1000) (p * t) false) : Nat) : Int)])], by kernel_rfl, ?_⟩
    refine GL.run (j := 8) 4 [6, 7] [(6, .int .u64 (((divV (a * 100000000 * 1000) (p * t) false) : Nat) : Int)), (7, .int .i64 (((divE (a * 100000000 * 1000) (p * t) false) : Nat) : Int))] (by kernel_rfl) rfl ?_
    refine GL.k rfl hK18 (fun _ _ h => h) ?_
    refine G.ret ?_
    intro F_ hF_ hM_
    refine hRet _ _ (bodyPost_2 rfl (RV.tmp rfl) (RV.tmp rfl) ?_ F_ hF_ hM_)
    have c1 : roomV a p t = (divV (a * 100000000 * 1000) (p * t) false) := by rw [roomV, if_pos (by omega)]
    have c2 : roomE a p t = (divE (a * 100000000 * 1000) (p * t) false) := by rw [roomE, if_pos (by omega)]
    rw [c1, c2]
    exact ⟨rfl, H20.sub (List.nil_sublist _)⟩
end Go.Proofs.Ytfhjoojifjmnlaa
