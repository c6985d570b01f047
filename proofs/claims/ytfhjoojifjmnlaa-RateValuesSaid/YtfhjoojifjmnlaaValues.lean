/- What parts are worth is the document's: the walk. -/
import Derived.Test.YtfhjoojifjmnlaaTold
namespace Go.Proofs.Ytfhjoojifjmnlaa
open Go.RowKit
theorem val_no {a p : Nat} {m : Bool} (h : ¬ (a ≤ 4611686018427387904 ∧ (1 ≤ p ∧ p ≤ 1099511627776) ∧ (1 ≤ 1 ∧ 1 ≤ 1000000))) : valE a p m = 1 ∧ valV a p m = 0 := by
  have hMX : MX = 4611686018427387904 := rfl
  by_cases hp : 1 ≤ p ∧ p ≤ 1099511627776
  · rw [valE, valV, if_pos hp, if_pos hp]
    exact part_arg (by omega)
  · rw [valE, valV, if_neg hp, if_neg hp]
    exact ⟨rfl, rfl⟩
theorem par_no {a p : Nat} (h : ¬ (a ≤ 4611686018427387904 ∧ (1 ≤ p ∧ p ≤ 1099511627776) ∧ (1 ≤ 1 ∧ 1 ≤ 1000000))) : parE a p = 1 ∧ parV a p = 0 := by
  have hMX : MX = 4611686018427387904 := rfl
  by_cases hp : 1 ≤ p ∧ p ≤ 1099511627776
  · rw [parE, parV, if_pos hp, if_pos hp]
    exact part_arg (by omega)
  · rw [parE, parV, if_neg hp, if_neg hp]
    exact ⟨rfl, rfl⟩
theorem val_yes {a p : Nat} {m : Bool} (h : a ≤ 4611686018427387904 ∧ (1 ≤ p ∧ p ≤ 1099511627776) ∧ (1 ≤ 1 ∧ 1 ≤ 1000000)) : (divF (a * p) 100000000 m = false → valE a p m = 4 ∧ valV a p m = 0) ∧ (divF (a * p) 100000000 m = true → valE a p m = 0 ∧ valV a p m = divV (a * p) 100000000 m) := by
  rw [valE, valV, if_pos h.2.1, if_pos h.2.1]
  exact part_told h.1 (by decide)
theorem par_yes {a p : Nat} (h : a ≤ 4611686018427387904 ∧ (1 ≤ p ∧ p ≤ 1099511627776) ∧ (1 ≤ 1 ∧ 1 ≤ 1000000)) : (divF (a * 100000000) p false = false → parE a p = 4 ∧ parV a p = 0) ∧ (divF (a * 100000000) p false = true → parE a p = 0 ∧ parV a p = divV (a * 100000000) p false) := by
  rw [parE, parV, if_pos h.2.1, if_pos h.2.1]
  exact part_told h.1 (by omega)
theorem RateValues_true (a p : Nat) (ha : a < K) (hp : p < K) (w : World) : Calls Try.prog 4 #[.int .u64 (a : Int), .int .u64 (p : Int), .bool true] w fun e w' => e = .returned (.bool true) ∧ Hp w [] [] w' := by
  have hMX : MX = 4611686018427387904 := rfl
  have hK0 : K = 18446744073709551616 := rfl
  have hK40 : K4 = 115792089237316195423570985008687907853269984665640564039457584007913129639936 := rfl
  refine calls_G (args := [.int .u64 (a : Int), .int .u64 (p : Int), .bool true]) Try.func4 rfl Try.ntmps4 rfl ?_
  intro Q0 hRet hNor hPan
  have H := Hp.start w
  have H : Hp w [] [] w := H
  refine G.seqK fun K1 hK2 => ?_
  refine G.region ?_
  refine GL.run (j := 1) 1 [0, 1, 2, 6] [(0, .int .u64 (a : Int)), (1, .int .u64 (p : Int)), (2, .bool true), (6, .bool false)] (by kernel_rfl) rfl ?_
  refine GL.k rfl hK2 (fun _ _ h => h) ?_
  refine G.seqK fun K3 hK4 => ?_
  refine G.seqK fun K5 hK6 => ?_
  refine G.region ?_
  refine GL.call (j := 1) (lives_calls w) (by kernel_rfl) rfl (fun e_ w7 hR => ?_)
  obtain ⟨rfl, H9⟩ := hR
  have H8 : Hp w [] [] w7 := H.callNil H9
  refine ⟨_, rfl, [0, 1, 2, 6, 16], [(0, .int .u64 (a : Int)), (1, .int .u64 (p : Int)), (2, .bool true), (6, .bool false), (16, .bool true)], by kernel_rfl, ?_⟩
  refine GL.run (j := 2) 1 [0, 1, 2, 6, 17] [(0, .int .u64 (a : Int)), (1, .int .u64 (p : Int)), (2, .bool true), (6, .bool false), (17, .bool false)] (by kernel_rfl) rfl ?_
  refine GL.k rfl hK6 (fun _ _ h => h) ?_
  refine G.no rfl ?_
  refine G.skipK hK4 (fun _ _ h => h) ?_
  refine G.seqK fun K10 hK11 => ?_
  refine G.region ?_
  refine GL.run (j := 2) 2 [0, 1, 2, 6, 17, 18, 19] [(0, .int .u64 (a : Int)), (1, .int .u64 (p : Int)), (2, .bool true), (6, .bool false), (17, .bool false), (18, .int .u64 (p : Int)), (19, .int .u64 (a : Int))] (by kernel_rfl) rfl ?_
  obtain ⟨p12, w13, r14, H15⟩ := H8.madeRow (P := Try.prog) (Instr.buildSlice 36 1 #[(0, .int .u64 (a : Int))]) (fun b_ => .slice (some ⟨b_, 0, none⟩) 1 1) [.int .u64 (a : Int)] 22 1 1 1 (by kernel_rfl) (by decide) (by decide) rfl
  have H15 : Hp w [] [.row (some ⟨p12, 0, none⟩) 1 1 22 1 (dg [a])] w13 := H15
  refine GL.sem (j := 3) (r14) [0, 1, 2, 6, 17, 18, 20] [(0, .int .u64 (a : Int)), (1, .int .u64 (p : Int)), (2, .bool true), (6, .bool false), (17, .bool false), (18, .int .u64 (p : Int)), (20, .slice (some ⟨p12, 0, none⟩) 1 1)] (by kernel_rfl) (by kernel_rfl) rfl ?_
  refine GL.call (j := 4) (Right5_1 p 1 a (some ⟨p12, 0, none⟩) 1 w13 (H15.rdRow 0 rfl)) (by kernel_rfl) rfl (fun e_ w16 hR => ?_)
  obtain ⟨rfl, H18⟩ := hR
  have H17 : Hp w [] [.row (some ⟨p12, 0, none⟩) 1 1 22 1 (dg [a])] w16 := H15.callNil H18
  refine ⟨_, rfl, [0, 1, 2, 6, 17, 21], [(0, .int .u64 (a : Int)), (1, .int .u64 (p : Int)), (2, .bool true), (6, .bool false), (17, .bool false), (21, .bool (decide (a ≤ 4611686018427387904 ∧ (1 ≤ p ∧ p ≤ 1099511627776) ∧ (1 ≤ 1 ∧ 1 ≤ 1000000))))], by kernel_rfl, ?_⟩
  refine GL.run (j := 5) 1 [0, 1, 2, 6, 7, 17] [(0, .int .u64 (a : Int)), (1, .int .u64 (p : Int)), (2, .bool true), (6, .bool false), (7, .bool (decide (a ≤ 4611686018427387904 ∧ (1 ≤ p ∧ p ≤ 1099511627776) ∧ (1 ≤ 1 ∧ 1 ≤ 1000000)))), (17, .bool false)] (by kernel_rfl) rfl ?_
  refine GL.k rfl hK11 (fun _ _ h => h) ?_
  refine G.seqK fun K19 hK20 => ?_
  refine G.region ?_
  refine GL.run (j := 3) 3 [0, 1, 2, 6, 7, 17, 23, 24, 25] [(0, .int .u64 (a : Int)), (1, .int .u64 (p : Int)), (2, .bool true), (6, .bool false), (7, .bool (decide (a ≤ 4611686018427387904 ∧ (1 ≤ p ∧ p ≤ 1099511627776) ∧ (1 ≤ 1 ∧ 1 ≤ 1000000)))), (17, .bool false), (23, .int .u64 (a : Int)), (24, .int .u64 (p : Int)), (25, .bool true)] (by kernel_rfl) rfl ?_
  refine GL.call (j := 4) (Value_up_calls a p ha hp w16) (by kernel_rfl) rfl (fun e_ w21 hR => ?_)
  obtain ⟨rfl, H23⟩ := hR
  have H22 : Hp w [] [.row (some ⟨p12, 0, none⟩) 1 1 22 1 (dg [a])] w21 := H17.callNil H23
  refine ⟨_, rfl, [0, 1, 2, 6, 7, 17, 26], [(0, .int .u64 (a : Int)), (1, .int .u64 (p : Int)), (2, .bool true), (6, .bool false), (7, .bool (decide (a ≤ 4611686018427387904 ∧ (1 ≤ p ∧ p ≤ 1099511627776) ∧ (1 ≤ 1 ∧ 1 ≤ 1000000)))), (17, .bool false), (26, .tuple #[.int .u64 (((valV a p true) : Nat) : Int), .int .i64 (((valE a p true) : Nat) : Int)])], by kernel_rfl, ?_⟩
  refine GL.run (j := 9) 5 [0, 1, 2, 6, 7, 8, 9, 17] [(0, .int .u64 (a : Int)), (1, .int .u64 (p : Int)), (2, .bool true), (6, .bool false), (7, .bool (decide (a ≤ 4611686018427387904 ∧ (1 ≤ p ∧ p ≤ 1099511627776) ∧ (1 ≤ 1 ∧ 1 ≤ 1000000)))), (8, .int .u64 (((valV a p true) : Nat) : Int)), (9, .int .i64 (((valE a p true) : Nat) : Int)), (17, .bool false)] (by kernel_rfl) rfl ?_
  refine GL.k rfl hK20 (fun _ _ h => h) ?_
  refine G.seqK fun K24 hK25 => ?_
  refine G.region ?_
  refine GL.run (j := 2) 2 [0, 1, 2, 6, 7, 8, 9, 17, 30, 31] [(0, .int .u64 (a : Int)), (1, .int .u64 (p : Int)), (2, .bool true), (6, .bool false), (7, .bool (decide (a ≤ 4611686018427387904 ∧ (1 ≤ p ∧ p ≤ 1099511627776) ∧ (1 ≤ 1 ∧ 1 ≤ 1000000)))), (8, .int .u64 (((valV a p true) : Nat) : Int)), (9, .int .i64 (((valE a p true) : Nat) : Int)), (17, .bool false), (30, .int .u64 (a : Int)), (31, .int .u64 (p : Int))] (by kernel_rfl) rfl ?_
  refine GL.call (j := 3) (Parts_calls a p ha hp w21) (by kernel_rfl) rfl (fun e_ w26 hR => ?_)
  obtain ⟨rfl, H28⟩ := hR
  have H27 : Hp w [] [.row (some ⟨p12, 0, none⟩) 1 1 22 1 (dg [a])] w26 := H22.callNil H28
  refine ⟨_, rfl, [0, 1, 2, 6, 7, 8, 9, 17, 32], [(0, .int .u64 (a : Int)), (1, .int .u64 (p : Int)), (2, .bool true), (6, .bool false), (7, .bool (decide (a ≤ 4611686018427387904 ∧ (1 ≤ p ∧ p ≤ 1099511627776) ∧ (1 ≤ 1 ∧ 1 ≤ 1000000)))), (8, .int .u64 (((valV a p true) : Nat) : Int)), (9, .int .i64 (((valE a p true) : Nat) : Int)), (17, .bool false), (32, .tuple #[.int .u64 (((parV a p) : Nat) : Int), .int .i64 (((parE a p) : Nat) : Int)])], by kernel_rfl, ?_⟩
  refine GL.run (j := 8) 5 [0, 1, 2, 6, 7, 8, 9, 10, 11, 17] [(0, .int .u64 (a : Int)), (1, .int .u64 (p : Int)), (2, .bool true), (6, .bool false), (7, .bool (decide (a ≤ 4611686018427387904 ∧ (1 ≤ p ∧ p ≤ 1099511627776) ∧ (1 ≤ 1 ∧ 1 ≤ 1000000)))), (8, .int .u64 (((valV a p true) : Nat) : Int)), (9, .int .i64 (((valE a p true) : Nat) : Int)), (10, .int .u64 (((parV a p) : Nat) : Int)), (11, .int .i64 (((parE a p) : Nat) : Int)), (17, .bool false)] (by kernel_rfl) rfl ?_
  refine GL.k rfl hK25 (fun _ _ h => h) ?_
  refine G.seqK fun K29 hK30 => ?_
  refine G.seqK fun K31 hK32 => ?_
  refine G.region ?_
  refine GL.run (j := 2) 2 [0, 1, 2, 6, 7, 8, 9, 10, 11, 17, 36] [(0, .int .u64 (a : Int)), (1, .int .u64 (p : Int)), (2, .bool true), (6, .bool false), (7, .bool (decide (a ≤ 4611686018427387904 ∧ (1 ≤ p ∧ p ≤ 1099511627776) ∧ (1 ≤ 1 ∧ 1 ≤ 1000000)))), (8, .int .u64 (((valV a p true) : Nat) : Int)), (9, .int .i64 (((valE a p true) : Nat) : Int)), (10, .int .u64 (((parV a p) : Nat) : Int)), (11, .int .i64 (((parE a p) : Nat) : Int)), (17, .bool false), (36, .bool (!(decide (a ≤ 4611686018427387904 ∧ (1 ≤ p ∧ p ≤ 1099511627776) ∧ (1 ≤ 1 ∧ 1 ≤ 1000000)))))] (by kernel_rfl) rfl ?_
  refine GL.k rfl hK32 (fun _ _ h => h) ?_
  cases hb33 : (decide (a ≤ 4611686018427387904 ∧ (1 ≤ p ∧ p ≤ 1099511627776) ∧ (1 ≤ 1 ∧ 1 ≤ 1000000)))
  · skip
    have hb33f := of_decide_eq_false hb33
    have hR := hb33f
    refine G.yes rfl ?_
    refine G.seqK fun K34 hK35 => ?_
    refine G.region ?_
    refine GL.run (j := 2) 2 [0, 1, 2, 6, 7, 8, 9, 10, 11, 17, 36, 37, 38] [(0, .int .u64 (a : Int)), (1, .int .u64 (p : Int)), (2, .bool true), (6, .bool false), (7, .bool false), (8, .int .u64 (((valV a p true) : Nat) : Int)), (9, .int .i64 (((valE a p true) : Nat) : Int)), (10, .int .u64 (((parV a p) : Nat) : Int)), (11, .int .i64 (((parE a p) : Nat) : Int)), (17, .bool false), (36, .bool true), (37, .int .u64 (((valV a p true) : Nat) : Int)), (38, .int .i64 (((valE a p true) : Nat) : Int))] (by kernel_rfl) rfl ?_
    refine GL.call (j := 3) (told_calls (valV a p true) (valE a p true) 0 false false (fun _ => val_no hR) (fun h => by cases h) w26) (by kernel_rfl) rfl (fun e_ w36 hR => ?_)
    obtain ⟨rfl, H38⟩ := hR
    have H37 : Hp w [] [.row (some ⟨p12, 0, none⟩) 1 1 22 1 (dg [a])] w36 := H27.callNil H38
    refine ⟨_, rfl, [0, 1, 2, 6, 7, 8, 9, 10, 11, 17, 36, 39], [(0, .int .u64 (a : Int)), (1, .int .u64 (p : Int)), (2, .bool true), (6, .bool false), (7, .bool false), (8, .int .u64 (((valV a p true) : Nat) : Int)), (9, .int .i64 (((valE a p true) : Nat) : Int)), (10, .int .u64 (((parV a p) : Nat) : Int)), (11, .int .i64 (((parE a p) : Nat) : Int)), (17, .bool false), (36, .bool true), (39, .bool true)], by kernel_rfl, ?_⟩
    refine GL.run (j := 6) 3 [0, 1, 2, 6, 7, 8, 9, 10, 11, 17, 36, 40, 41, 42] [(0, .int .u64 (a : Int)), (1, .int .u64 (p : Int)), (2, .bool true), (6, .bool false), (7, .bool false), (8, .int .u64 (((valV a p true) : Nat) : Int)), (9, .int .i64 (((valE a p true) : Nat) : Int)), (10, .int .u64 (((parV a p) : Nat) : Int)), (11, .int .i64 (((parE a p) : Nat) : Int)), (17, .bool false), (36, .bool true), (40, .bool true), (41, .int .u64 (((parV a p) : Nat) : Int)), (42, .int .i64 (((parE a p) : Nat) : Int))] (by kernel_rfl) rfl ?_
    refine GL.call (j := 7) (told_calls (parV a p) (parE a p) 0 false false (fun _ => par_no hR) (fun h => by cases h) w36) (by kernel_rfl) rfl (fun e_ w39 hR => ?_)
    obtain ⟨rfl, H41⟩ := hR
    have H40 : Hp w [] [.row (some ⟨p12, 0, none⟩) 1 1 22 1 (dg [a])] w39 := H37.callNil H41
    refine ⟨_, rfl, [0, 1, 2, 6, 7, 8, 9, 10, 11, 17, 36, 40, 43], [(0, .int .u64 (a : Int)), (1, .int .u64 (p : Int)), (2, .bool true), (6, .bool false), (7, .bool false), (8, .int .u64 (((valV a p true) : Nat) : Int)), (9, .int .i64 (((valE a p true) : Nat) : Int)), (10, .int .u64 (((parV a p) : Nat) : Int)), (11, .int .i64 (((parE a p) : Nat) : Int)), (17, .bool false), (36, .bool true), (40, .bool true), (43, .bool true)], by kernel_rfl, ?_⟩
    refine GL.run (j := 10) 3 [0, 1, 2, 6, 7, 8, 9, 10, 11, 17, 36, 45, 46] [(0, .int .u64 (a : Int)), (1, .int .u64 (p : Int)), (2, .bool true), (6, .bool false), (7, .bool false), (8, .int .u64 (((valV a p true) : Nat) : Int)), (9, .int .i64 (((valE a p true) : Nat) : Int)), (10, .int .u64 (((parV a p) : Nat) : Int)), (11, .int .i64 (((parE a p) : Nat) : Int)), (17, .bool false), (36, .bool true), (45, .bool true), (46, .int .u64 (p : Int))] (by kernel_rfl) rfl ?_
    refine GL.call (j := 11) (PRight_calls p w39) (by kernel_rfl) rfl (fun e_ w42 hR => ?_)
    obtain ⟨rfl, H44⟩ := hR
    have H43 : Hp w [] [.row (some ⟨p12, 0, none⟩) 1 1 22 1 (dg [a])] w42 := H40.callNil H44
    refine ⟨_, rfl, [0, 1, 2, 6, 7, 8, 9, 10, 11, 17, 36, 45, 47], [(0, .int .u64 (a : Int)), (1, .int .u64 (p : Int)), (2, .bool true), (6, .bool false), (7, .bool false), (8, .int .u64 (((valV a p true) : Nat) : Int)), (9, .int .i64 (((valE a p true) : Nat) : Int)), (10, .int .u64 (((parV a p) : Nat) : Int)), (11, .int .i64 (((parE a p) : Nat) : Int)), (17, .bool false), (36, .bool true), (45, .bool true), (47, .bool (decide (1 ≤ p ∧ p ≤ 1099511627776)))], by kernel_rfl, ?_⟩
    refine GL.run (j := 14) 3 [0, 1, 2, 6, 7, 8, 9, 10, 11, 17, 36, 45, 47, 50] [(0, .int .u64 (a : Int)), (1, .int .u64 (p : Int)), (2, .bool true), (6, .bool false), (7, .bool false), (8, .int .u64 (((valV a p true) : Nat) : Int)), (9, .int .i64 (((valE a p true) : Nat) : Int)), (10, .int .u64 (((parV a p) : Nat) : Int)), (11, .int .i64 (((parE a p) : Nat) : Int)), (17, .bool false), (36, .bool true), (45, .bool true), (47, .bool (decide (1 ≤ p ∧ p ≤ 1099511627776))), (50, .bool (decide (1 ≤ (p : Int))))] (by kernel_rfl) rfl ?_
    cases hb45 : (decide (1 ≤ (p : Int)))
    · skip
      have hb45f := of_decide_eq_false hb45
      refine GL.run (j := 20) 6 [0, 1, 2, 6, 7, 8, 9, 10, 11, 17, 36] [(0, .int .u64 (a : Int)), (1, .int .u64 (p : Int)), (2, .bool true), (6, .bool ((decide (1 ≤ p ∧ p ≤ 1099511627776)) == false)), (7, .bool false), (8, .int .u64 (((valV a p true) : Nat) : Int)), (9, .int .i64 (((valE a p true) : Nat) : Int)), (10, .int .u64 (((parV a p) : Nat) : Int)), (11, .int .i64 (((parE a p) : Nat) : Int)), (17, .bool false), (36, .bool true)] (by kernel_rfl) rfl ?_
      refine GL.k rfl hK35 (fun _ _ h => h) ?_
      refine G.ret ?_
      intro F_ hF_ hM_
      refine hRet _ _ (bodyPost_1 rfl (RV.tmp rfl) ?_ F_ hF_ hM_)
      have hb46 : ((decide (1 ≤ p ∧ p ≤ 1099511627776)) == false) = true := by rw [beq_iff_eq, Bool.eq_iff_iff]; simp only [decide_eq_true_eq, Bool.true_eq_false, Bool.false_eq_true, true_iff, false_iff, iff_false, iff_true]; omega
      rw [hb46]
      exact ⟨rfl, H43.sub (List.nil_sublist _)⟩
    · skip
      have hb45f := of_decide_eq_true hb45
      refine GL.run (j := 20) 6 [0, 1, 2, 6, 7, 8, 9, 10, 11, 17, 36] [(0, .int .u64 (a : Int)), (1, .int .u64 (p : Int)), (2, .bool true), (6, .bool ((decide (1 ≤ p ∧ p ≤ 1099511627776)) == (decide ((p : Int) ≤ 1099511627776)))), (7, .bool false), (8, .int .u64 (((valV a p true) : Nat) : Int)), (9, .int .i64 (((valE a p true) : Nat) : Int)), (10, .int .u64 (((parV a p) : Nat) : Int)), (11, .int .i64 (((parE a p) : Nat) : Int)), (17, .bool false), (36, .bool true)] (by kernel_rfl) rfl ?_
      refine GL.k rfl hK35 (fun _ _ h => h) ?_
      refine G.ret ?_
      intro F_ hF_ hM_
      refine hRet _ _ (bodyPost_1 rfl (RV.tmp rfl) ?_ F_ hF_ hM_)
      have hb47 : ((decide (1 ≤ p ∧ p ≤ 1099511627776)) == (decide ((p : Int) ≤ 1099511627776))) = true := by rw [beq_iff_eq, Bool.eq_iff_iff]; simp only [decide_eq_true_eq, Bool.true_eq_false, Bool.false_eq_true, true_iff, false_iff, iff_false, iff_true]; omega
      rw [hb47]
      exact ⟨rfl, H43.sub (List.nil_sublist _)⟩
  · skip
    have hb33f := of_decide_eq_true hb33
    have hR := hb33f
    refine G.no rfl ?_
    refine G.skipK hK30 (fun _ _ h => h) ?_
    refine G.seqK fun K48 hK49 => ?_
    refine G.region ?_
    refine GL.run (j := 2) 2 [0, 1, 2, 6, 7, 8, 9, 10, 11, 17, 36, 57, 58] [(0, .int .u64 (a : Int)), (1, .int .u64 (p : Int)), (2, .bool true), (6, .bool false), (7, .bool true), (8, .int .u64 (((valV a p true) : Nat) : Int)), (9, .int .i64 (((valE a p true) : Nat) : Int)), (10, .int .u64 (((parV a p) : Nat) : Int)), (11, .int .i64 (((parE a p) : Nat) : Int)), (17, .bool false), (36, .bool false), (57, .int .u64 (a : Int)), (58, .int .u64 (p : Int))] (by kernel_rfl) rfl ?_
    obtain ⟨p50, w51, r52, H53⟩ := H27.madeRow (P := Try.prog) (Instr.buildSlice 36 2 #[(0, .int .u64 (a : Int)), (1, .int .u64 (p : Int))]) (fun b_ => .slice (some ⟨b_, 0, none⟩) 2 2) [.int .u64 (a : Int), .int .u64 (p : Int)] 22 2 2 1 (by kernel_rfl) (by decide) (by decide) rfl
    have H53 : Hp w [] [.row (some ⟨p12, 0, none⟩) 1 1 22 1 (dg [a]), .row (some ⟨p50, 0, none⟩) 2 2 22 1 (dg [a, p])] w51 := H53
    refine GL.sem (j := 3) (r52) [0, 1, 2, 6, 7, 8, 9, 10, 11, 17, 36, 59] [(0, .int .u64 (a : Int)), (1, .int .u64 (p : Int)), (2, .bool true), (6, .bool false), (7, .bool true), (8, .int .u64 (((valV a p true) : Nat) : Int)), (9, .int .i64 (((valE a p true) : Nat) : Int)), (10, .int .u64 (((parV a p) : Nat) : Int)), (11, .int .i64 (((parE a p) : Nat) : Int)), (17, .bool false), (36, .bool false), (59, .slice (some ⟨p50, 0, none⟩) 2 2)] (by kernel_rfl) (by kernel_rfl) rfl ?_
    have hN59 : ndg (a * p) ≤ 8 := ndg_mul (ndg_K ha) (ndg_K hp)
    refine GL.call (j := 4) (Product5_2 a p ha hp (some ⟨p50, 0, none⟩) 2 w51 (H53.rdRow 1 rfl)) (by kernel_rfl) rfl (fun e_ w58 hR => ?_)
    obtain ⟨A54, c55, rfl, H57⟩ := hR
    have H56 : Hp w [] [.row (some ⟨p12, 0, none⟩) 1 1 22 1 (dg [a]), .row (some ⟨p50, 0, none⟩) 2 2 22 1 (dg [a, p]), .row A54 (ndg (a * p)) c55 22 1 (dg (digs (a * p)))] w58 := H53.callNew H57
    refine ⟨_, rfl, [0, 1, 2, 6, 7, 8, 9, 10, 11, 17, 36, 60], [(0, .int .u64 (a : Int)), (1, .int .u64 (p : Int)), (2, .bool true), (6, .bool false), (7, .bool true), (8, .int .u64 (((valV a p true) : Nat) : Int)), (9, .int .i64 (((valE a p true) : Nat) : Int)), (10, .int .u64 (((parV a p) : Nat) : Int)), (11, .int .i64 (((parE a p) : Nat) : Int)), (17, .bool false), (36, .bool false), (60, .slice A54 (ndg (a * p)) c55)], by kernel_rfl, ?_⟩
    have hN65 : ndg 100000000 ≤ 4 := ndg_K (by decide)
    refine GL.call (j := 5) (N5_calls 100000000 (by decide) w58) (by kernel_rfl) rfl (fun e_ w64 hR => ?_)
    obtain ⟨A60, c61, rfl, H63⟩ := hR
    have H62 : Hp w [] [.row (some ⟨p12, 0, none⟩) 1 1 22 1 (dg [a]), .row (some ⟨p50, 0, none⟩) 2 2 22 1 (dg [a, p]), .row A54 (ndg (a * p)) c55 22 1 (dg (digs (a * p))), .row A60 (ndg 100000000) c61 22 1 (dg (digs 100000000))] w64 := H56.callNew H63
    refine ⟨_, rfl, [0, 1, 2, 6, 7, 8, 9, 10, 11, 17, 36, 60, 61], [(0, .int .u64 (a : Int)), (1, .int .u64 (p : Int)), (2, .bool true), (6, .bool false), (7, .bool true), (8, .int .u64 (((valV a p true) : Nat) : Int)), (9, .int .i64 (((valE a p true) : Nat) : Int)), (10, .int .u64 (((parV a p) : Nat) : Int)), (11, .int .i64 (((parE a p) : Nat) : Int)), (17, .bool false), (36, .bool false), (60, .slice A54 (ndg (a * p)) c55), (61, .slice A60 (ndg 100000000) c61)], by kernel_rfl, ?_⟩
    refine GL.run (j := 6) 1 [0, 1, 2, 6, 7, 8, 9, 10, 11, 17, 36, 60, 61, 62] [(0, .int .u64 (a : Int)), (1, .int .u64 (p : Int)), (2, .bool true), (6, .bool false), (7, .bool true), (8, .int .u64 (((valV a p true) : Nat) : Int)), (9, .int .i64 (((valE a p true) : Nat) : Int)), (10, .int .u64 (((parV a p) : Nat) : Int)), (11, .int .i64 (((parE a p) : Nat) : Int)), (17, .bool false), (36, .bool false), (60, .slice A54 (ndg (a * p)) c55), (61, .slice A60 (ndg 100000000) c61), (62, .bool true)] (by kernel_rfl) rfl ?_
    refine GL.call (j := 7) (Divide5_up (a * p) 100000000 A54 c55 A60 c61 w64 (H62.rdRow 2 rfl) (H62.rdRow 3 rfl) (Nat.le_trans hN59 (by decide)) (Nat.le_trans hN65 (by decide)) (by decide)) (by kernel_rfl) rfl (fun e_ w66 hR => ?_)
    obtain ⟨rfl, H68⟩ := hR
    have H67 : Hp w [] [.row (some ⟨p12, 0, none⟩) 1 1 22 1 (dg [a]), .row (some ⟨p50, 0, none⟩) 2 2 22 1 (dg [a, p]), .row A54 (ndg (a * p)) c55 22 1 (dg (digs (a * p))), .row A60 (ndg 100000000) c61 22 1 (dg (digs 100000000))] w66 := H62.callNil H68
    refine ⟨_, rfl, [0, 1, 2, 6, 7, 8, 9, 10, 11, 17, 36, 63], [(0, .int .u64 (a : Int)), (1, .int .u64 (p : Int)), (2, .bool true), (6, .bool false), (7, .bool true), (8, .int .u64 (((valV a p true) : Nat) : Int)), (9, .int .i64 (((valE a p true) : Nat) : Int)), (10, .int .u64 (((parV a p) : Nat) : Int)), (11, .int .i64 (((parE a p) : Nat) : Int)), (17, .bool false), (36, .bool false), (63, .tuple #[.int .u64 (((divV (a * p) 100000000 true) : Nat) : Int), .bool (divF (a * p) 100000000 true)])], by kernel_rfl, ?_⟩
    refine GL.run (j := 12) 5 [0, 1, 2, 6, 7, 8, 9, 10, 11, 12, 13, 17, 36] [(0, .int .u64 (a : Int)), (1, .int .u64 (p : Int)), (2, .bool true), (6, .bool false), (7, .bool true), (8, .int .u64 (((valV a p true) : Nat) : Int)), (9, .int .i64 (((valE a p true) : Nat) : Int)), (10, .int .u64 (((parV a p) : Nat) : Int)), (11, .int .i64 (((parE a p) : Nat) : Int)), (12, .int .u64 (((divV (a * p) 100000000 true) : Nat) : Int)), (13, .bool (divF (a * p) 100000000 true)), (17, .bool false), (36, .bool false)] (by kernel_rfl) rfl ?_
    refine GL.k rfl hK49 (fun _ _ h => h) ?_
    refine G.seqK fun K69 hK70 => ?_
    refine G.region ?_
    refine GL.run (j := 1) 1 [0, 1, 2, 6, 7, 8, 9, 10, 11, 12, 13, 17, 36, 67] [(0, .int .u64 (a : Int)), (1, .int .u64 (p : Int)), (2, .bool true), (6, .bool false), (7, .bool true), (8, .int .u64 (((valV a p true) : Nat) : Int)), (9, .int .i64 (((valE a p true) : Nat) : Int)), (10, .int .u64 (((parV a p) : Nat) : Int)), (11, .int .i64 (((parE a p) : Nat) : Int)), (12, .int .u64 (((divV (a * p) 100000000 true) : Nat) : Int)), (13, .bool (divF (a * p) 100000000 true)), (17, .bool false), (36, .bool false), (67, .int .u64 (a : Int))] (by kernel_rfl) rfl ?_
    obtain ⟨p71, w72, r73, H74⟩ := H67.madeRow (P := Try.prog) (Instr.buildSlice 36 2 #[(0, .int .u64 (a : Int)), (1, .int .u64 100000000)]) (fun b_ => .slice (some ⟨b_, 0, none⟩) 2 2) [.int .u64 (a : Int), .int .u64 100000000] 22 2 2 1 (by kernel_rfl) (by decide) (by decide) rfl
    have H74 : Hp w [] [.row (some ⟨p12, 0, none⟩) 1 1 22 1 (dg [a]), .row (some ⟨p50, 0, none⟩) 2 2 22 1 (dg [a, p]), .row A54 (ndg (a * p)) c55 22 1 (dg (digs (a * p))), .row A60 (ndg 100000000) c61 22 1 (dg (digs 100000000)), .row (some ⟨p71, 0, none⟩) 2 2 22 1 (dg [a, 100000000])] w72 := H74
    refine GL.sem (j := 2) (r73) [0, 1, 2, 6, 7, 8, 9, 10, 11, 12, 13, 17, 36, 68] [(0, .int .u64 (a : Int)), (1, .int .u64 (p : Int)), (2, .bool true), (6, .bool false), (7, .bool true), (8, .int .u64 (((valV a p true) : Nat) : Int)), (9, .int .i64 (((valE a p true) : Nat) : Int)), (10, .int .u64 (((parV a p) : Nat) : Int)), (11, .int .i64 (((parE a p) : Nat) : Int)), (12, .int .u64 (((divV (a * p) 100000000 true) : Nat) : Int)), (13, .bool (divF (a * p) 100000000 true)), (17, .bool false), (36, .bool false), (68, .slice (some ⟨p71, 0, none⟩) 2 2)] (by kernel_rfl) (by kernel_rfl) rfl ?_
    have hN80 : ndg (a * 100000000) ≤ 8 := ndg_mul (ndg_K ha) (ndg_K (by decide))
    refine GL.call (j := 3) (Product5_2 a 100000000 ha (by decide) (some ⟨p71, 0, none⟩) 2 w72 (H74.rdRow 4 rfl)) (by kernel_rfl) rfl (fun e_ w79 hR => ?_)
    obtain ⟨A75, c76, rfl, H78⟩ := hR
    have H77 : Hp w [] [.row (some ⟨p12, 0, none⟩) 1 1 22 1 (dg [a]), .row (some ⟨p50, 0, none⟩) 2 2 22 1 (dg [a, p]), .row A54 (ndg (a * p)) c55 22 1 (dg (digs (a * p))), .row A60 (ndg 100000000) c61 22 1 (dg (digs 100000000)), .row (some ⟨p71, 0, none⟩) 2 2 22 1 (dg [a, 100000000]), .row A75 (ndg (a * 100000000)) c76 22 1 (dg (digs (a * 100000000)))] w79 := H74.callNew H78
    refine ⟨_, rfl, [0, 1, 2, 6, 7, 8, 9, 10, 11, 12, 13, 17, 36, 69], [(0, .int .u64 (a : Int)), (1, .int .u64 (p : Int)), (2, .bool true), (6, .bool false), (7, .bool true), (8, .int .u64 (((valV a p true) : Nat) : Int)), (9, .int .i64 (((valE a p true) : Nat) : Int)), (10, .int .u64 (((parV a p) : Nat) : Int)), (11, .int .i64 (((parE a p) : Nat) : Int)), (12, .int .u64 (((divV (a * p) 100000000 true) : Nat) : Int)), (13, .bool (divF (a * p) 100000000 true)), (17, .bool false), (36, .bool false), (69, .slice A75 (ndg (a * 100000000)) c76)], by kernel_rfl, ?_⟩
    refine GL.run (j := 4) 1 [0, 1, 2, 6, 7, 8, 9, 10, 11, 12, 13, 17, 36, 69, 70] [(0, .int .u64 (a : Int)), (1, .int .u64 (p : Int)), (2, .bool true), (6, .bool false), (7, .bool true), (8, .int .u64 (((valV a p true) : Nat) : Int)), (9, .int .i64 (((valE a p true) : Nat) : Int)), (10, .int .u64 (((parV a p) : Nat) : Int)), (11, .int .i64 (((parE a p) : Nat) : Int)), (12, .int .u64 (((divV (a * p) 100000000 true) : Nat) : Int)), (13, .bool (divF (a * p) 100000000 true)), (17, .bool false), (36, .bool false), (69, .slice A75 (ndg (a * 100000000)) c76), (70, .int .u64 (p : Int))] (by kernel_rfl) rfl ?_
    have hN86 : ndg p ≤ 4 := ndg_K hp
    refine GL.call (j := 5) (N5_calls p hp w79) (by kernel_rfl) rfl (fun e_ w85 hR => ?_)
    obtain ⟨A81, c82, rfl, H84⟩ := hR
    have H83 : Hp w [] [.row (some ⟨p12, 0, none⟩) 1 1 22 1 (dg [a]), .row (some ⟨p50, 0, none⟩) 2 2 22 1 (dg [a, p]), .row A54 (ndg (a * p)) c55 22 1 (dg (digs (a * p))), .row A60 (ndg 100000000) c61 22 1 (dg (digs 100000000)), .row (some ⟨p71, 0, none⟩) 2 2 22 1 (dg [a, 100000000]), .row A75 (ndg (a * 100000000)) c76 22 1 (dg (digs (a * 100000000))), .row A81 (ndg p) c82 22 1 (dg (digs p))] w85 := H77.callNew H84
    refine ⟨_, rfl, [0, 1, 2, 6, 7, 8, 9, 10, 11, 12, 13, 17, 36, 69, 71], [(0, .int .u64 (a : Int)), (1, .int .u64 (p : Int)), (2, .bool true), (6, .bool false), (7, .bool true), (8, .int .u64 (((valV a p true) : Nat) : Int)), (9, .int .i64 (((valE a p true) : Nat) : Int)), (10, .int .u64 (((parV a p) : Nat) : Int)), (11, .int .i64 (((parE a p) : Nat) : Int)), (12, .int .u64 (((divV (a * p) 100000000 true) : Nat) : Int)), (13, .bool (divF (a * p) 100000000 true)), (17, .bool false), (36, .bool false), (69, .slice A75 (ndg (a * 100000000)) c76), (71, .slice A81 (ndg p) c82)], by kernel_rfl, ?_⟩
    refine GL.call (j := 6) (Divide5_down (a * 100000000) p A75 c76 A81 c82 w85 (H83.rdRow 5 rfl) (H83.rdRow 6 rfl) (Nat.le_trans hN80 (by decide)) (Nat.le_trans hN86 (by decide)) (by omega)) (by kernel_rfl) rfl (fun e_ w87 hR => ?_)
    obtain ⟨rfl, H89⟩ := hR
    have H88 : Hp w [] [.row (some ⟨p12, 0, none⟩) 1 1 22 1 (dg [a]), .row (some ⟨p50, 0, none⟩) 2 2 22 1 (dg [a, p]), .row A54 (ndg (a * p)) c55 22 1 (dg (digs (a * p))), .row A60 (ndg 100000000) c61 22 1 (dg (digs 100000000)), .row (some ⟨p71, 0, none⟩) 2 2 22 1 (dg [a, 100000000]), .row A75 (ndg (a * 100000000)) c76 22 1 (dg (digs (a * 100000000))), .row A81 (ndg p) c82 22 1 (dg (digs p))] w87 := H83.callNil H89
    refine ⟨_, rfl, [0, 1, 2, 6, 7, 8, 9, 10, 11, 12, 13, 17, 36, 72], [(0, .int .u64 (a : Int)), (1, .int .u64 (p : Int)), (2, .bool true), (6, .bool false), (7, .bool true), (8, .int .u64 (((valV a p true) : Nat) : Int)), (9, .int .i64 (((valE a p true) : Nat) : Int)), (10, .int .u64 (((parV a p) : Nat) : Int)), (11, .int .i64 (((parE a p) : Nat) : Int)), (12, .int .u64 (((divV (a * p) 100000000 true) : Nat) : Int)), (13, .bool (divF (a * p) 100000000 true)), (17, .bool false), (36, .bool false), (72, .tuple #[.int .u64 (((divV (a * 100000000) p false) : Nat) : Int), .bool (divF (a * 100000000) p false)])], by kernel_rfl, ?_⟩
    refine GL.run (j := 11) 5 [0, 1, 2, 6, 7, 8, 9, 10, 11, 12, 13, 14, 15, 17, 36] [(0, .int .u64 (a : Int)), (1, .int .u64 (p : Int)), (2, .bool true), (6, .bool false), (7, .bool true), (8, .int .u64 (((valV a p true) : Nat) : Int)), (9, .int .i64 (((valE a p true) : Nat) : Int)), (10, .int .u64 (((parV a p) : Nat) : Int)), (11, .int .i64 (((parE a p) : Nat) : Int)), (12, .int .u64 (((divV (a * p) 100000000 true) : Nat) : Int)), (13, .bool (divF (a * p) 100000000 true)), (14, .int .u64 (((divV (a * 100000000) p false) : Nat) : Int)), (15, .bool (divF (a * 100000000) p false)), (17, .bool false), (36, .bool false)] (by kernel_rfl) rfl ?_
    refine GL.k rfl hK70 (fun _ _ h => h) ?_
    refine G.seqK fun K90 hK91 => ?_
    refine G.region ?_
    refine GL.run (j := 4) 4 [0, 1, 2, 6, 7, 8, 9, 10, 11, 12, 13, 14, 15, 17, 36, 75, 76, 77, 78] [(0, .int .u64 (a : Int)), (1, .int .u64 (p : Int)), (2, .bool true), (6, .bool false), (7, .bool true), (8, .int .u64 (((valV a p true) : Nat) : Int)), (9, .int .i64 (((valE a p true) : Nat) : Int)), (10, .int .u64 (((parV a p) : Nat) : Int)), (11, .int .i64 (((parE a p) : Nat) : Int)), (12, .int .u64 (((divV (a * p) 100000000 true) : Nat) : Int)), (13, .bool (divF (a * p) 100000000 true)), (14, .int .u64 (((divV (a * 100000000) p false) : Nat) : Int)), (15, .bool (divF (a * 100000000) p false)), (17, .bool false), (36, .bool false), (75, .int .u64 (((valV a p true) : Nat) : Int)), (76, .int .i64 (((valE a p true) : Nat) : Int)), (77, .int .u64 (((divV (a * p) 100000000 true) : Nat) : Int)), (78, .bool (divF (a * p) 100000000 true))] (by kernel_rfl) rfl ?_
    refine GL.call (j := 5) (told_calls (valV a p true) (valE a p true) (divV (a * p) 100000000 true) true (divF (a * p) 100000000 true) (fun h => by cases h) (fun _ => val_yes hR) w87) (by kernel_rfl) rfl (fun e_ w92 hR => ?_)
    obtain ⟨rfl, H94⟩ := hR
    have H93 : Hp w [] [.row (some ⟨p12, 0, none⟩) 1 1 22 1 (dg [a]), .row (some ⟨p50, 0, none⟩) 2 2 22 1 (dg [a, p]), .row A54 (ndg (a * p)) c55 22 1 (dg (digs (a * p))), .row A60 (ndg 100000000) c61 22 1 (dg (digs 100000000)), .row (some ⟨p71, 0, none⟩) 2 2 22 1 (dg [a, 100000000]), .row A75 (ndg (a * 100000000)) c76 22 1 (dg (digs (a * 100000000))), .row A81 (ndg p) c82 22 1 (dg (digs p))] w92 := H88.callNil H94
    refine ⟨_, rfl, [0, 1, 2, 6, 7, 8, 9, 10, 11, 12, 13, 14, 15, 17, 36, 79], [(0, .int .u64 (a : Int)), (1, .int .u64 (p : Int)), (2, .bool true), (6, .bool false), (7, .bool true), (8, .int .u64 (((valV a p true) : Nat) : Int)), (9, .int .i64 (((valE a p true) : Nat) : Int)), (10, .int .u64 (((parV a p) : Nat) : Int)), (11, .int .i64 (((parE a p) : Nat) : Int)), (12, .int .u64 (((divV (a * p) 100000000 true) : Nat) : Int)), (13, .bool (divF (a * p) 100000000 true)), (14, .int .u64 (((divV (a * 100000000) p false) : Nat) : Int)), (15, .bool (divF (a * 100000000) p false)), (17, .bool false), (36, .bool false), (79, .bool true)], by kernel_rfl, ?_⟩
    refine GL.run (j := 10) 5 [0, 1, 2, 6, 7, 8, 9, 10, 11, 12, 13, 14, 15, 17, 36, 80, 81, 82, 83, 84] [(0, .int .u64 (a : Int)), (1, .int .u64 (p : Int)), (2, .bool true), (6, .bool false), (7, .bool true), (8, .int .u64 (((valV a p true) : Nat) : Int)), (9, .int .i64 (((valE a p true) : Nat) : Int)), (10, .int .u64 (((parV a p) : Nat) : Int)), (11, .int .i64 (((parE a p) : Nat) : Int)), (12, .int .u64 (((divV (a * p) 100000000 true) : Nat) : Int)), (13, .bool (divF (a * p) 100000000 true)), (14, .int .u64 (((divV (a * 100000000) p false) : Nat) : Int)), (15, .bool (divF (a * 100000000) p false)), (17, .bool false), (36, .bool false), (80, .bool true), (81, .int .u64 (((parV a p) : Nat) : Int)), (82, .int .i64 (((parE a p) : Nat) : Int)), (83, .int .u64 (((divV (a * 100000000) p false) : Nat) : Int)), (84, .bool (divF (a * 100000000) p false))] (by kernel_rfl) rfl ?_
    refine GL.call (j := 11) (told_calls (parV a p) (parE a p) (divV (a * 100000000) p false) true (divF (a * 100000000) p false) (fun h => by cases h) (fun _ => par_yes hR) w92) (by kernel_rfl) rfl (fun e_ w95 hR => ?_)
    obtain ⟨rfl, H97⟩ := hR
    have H96 : Hp w [] [.row (some ⟨p12, 0, none⟩) 1 1 22 1 (dg [a]), .row (some ⟨p50, 0, none⟩) 2 2 22 1 (dg [a, p]), .row A54 (ndg (a * p)) c55 22 1 (dg (digs (a * p))), .row A60 (ndg 100000000) c61 22 1 (dg (digs 100000000)), .row (some ⟨p71, 0, none⟩) 2 2 22 1 (dg [a, 100000000]), .row A75 (ndg (a * 100000000)) c76 22 1 (dg (digs (a * 100000000))), .row A81 (ndg p) c82 22 1 (dg (digs p))] w95 := H93.callNil H97
    refine ⟨_, rfl, [0, 1, 2, 6, 7, 8, 9, 10, 11, 12, 13, 14, 15, 17, 36, 80, 85], [(0, .int .u64 (a : Int)), (1, .int .u64 (p : Int)), (2, .bool true), (6, .bool false), (7, .bool true), (8, .int .u64 (((valV a p true) : Nat) : Int)), (9, .int .i64 (((valE a p true) : Nat) : Int)), (10, .int .u64 (((parV a p) : Nat) : Int)), (11, .int .i64 (((parE a p) : Nat) : Int)), (12, .int .u64 (((divV (a * p) 100000000 true) : Nat) : Int)), (13, .bool (divF (a * p) 100000000 true)), (14, .int .u64 (((divV (a * 100000000) p false) : Nat) : Int)), (15, .bool (divF (a * 100000000) p false)), (17, .bool false), (36, .bool false), (80, .bool true), (85, .bool true)], by kernel_rfl, ?_⟩
    refine GL.run (j := 13) 2 [0, 1, 2, 6, 7, 8, 9, 10, 11, 12, 13, 14, 15, 17, 36] [(0, .int .u64 (a : Int)), (1, .int .u64 (p : Int)), (2, .bool true), (6, .bool true), (7, .bool true), (8, .int .u64 (((valV a p true) : Nat) : Int)), (9, .int .i64 (((valE a p true) : Nat) : Int)), (10, .int .u64 (((parV a p) : Nat) : Int)), (11, .int .i64 (((parE a p) : Nat) : Int)), (12, .int .u64 (((divV (a * p) 100000000 true) : Nat) : Int)), (13, .bool (divF (a * p) 100000000 true)), (14, .int .u64 (((divV (a * 100000000) p false) : Nat) : Int)), (15, .bool (divF (a * 100000000) p false)), (17, .bool false), (36, .bool false)] (by kernel_rfl) rfl ?_
    refine GL.k rfl hK91 (fun _ _ h => h) ?_
    refine G.ret ?_
    intro F_ hF_ hM_
    refine hRet _ _ (bodyPost_1 rfl (RV.tmp rfl) ?_ F_ hF_ hM_)
    exact ⟨rfl, H96.sub (List.nil_sublist _)⟩
theorem RateValues_false (a p : Nat) (ha : a < K) (hp : p < K) (w : World) : Calls Try.prog 4 #[.int .u64 (a : Int), .int .u64 (p : Int), .bool false] w fun e w' => e = .returned (.bool true) ∧ Hp w [] [] w' := by
  have hMX : MX = 4611686018427387904 := rfl
  have hK0 : K = 18446744073709551616 := rfl
  have hK40 : K4 = 115792089237316195423570985008687907853269984665640564039457584007913129639936 := rfl
  refine calls_G (args := [.int .u64 (a : Int), .int .u64 (p : Int), .bool false]) Try.func4 rfl Try.ntmps4 rfl ?_
  intro Q0 hRet hNor hPan
  have H := Hp.start w
  have H : Hp w [] [] w := H
  refine G.seqK fun K1 hK2 => ?_
  refine G.region ?_
  refine GL.run (j := 1) 1 [0, 1, 2, 6] [(0, .int .u64 (a : Int)), (1, .int .u64 (p : Int)), (2, .bool false), (6, .bool false)] (by kernel_rfl) rfl ?_
  refine GL.k rfl hK2 (fun _ _ h => h) ?_
  refine G.seqK fun K3 hK4 => ?_
  refine G.seqK fun K5 hK6 => ?_
  refine G.region ?_
  refine GL.call (j := 1) (lives_calls w) (by kernel_rfl) rfl (fun e_ w7 hR => ?_)
  obtain ⟨rfl, H9⟩ := hR
  have H8 : Hp w [] [] w7 := H.callNil H9
  refine ⟨_, rfl, [0, 1, 2, 6, 16], [(0, .int .u64 (a : Int)), (1, .int .u64 (p : Int)), (2, .bool false), (6, .bool false), (16, .bool true)], by kernel_rfl, ?_⟩
  refine GL.run (j := 2) 1 [0, 1, 2, 6, 17] [(0, .int .u64 (a : Int)), (1, .int .u64 (p : Int)), (2, .bool false), (6, .bool false), (17, .bool false)] (by kernel_rfl) rfl ?_
  refine GL.k rfl hK6 (fun _ _ h => h) ?_
  refine G.no rfl ?_
  refine G.skipK hK4 (fun _ _ h => h) ?_
  refine G.seqK fun K10 hK11 => ?_
  refine G.region ?_
  refine GL.run (j := 2) 2 [0, 1, 2, 6, 17, 18, 19] [(0, .int .u64 (a : Int)), (1, .int .u64 (p : Int)), (2, .bool false), (6, .bool false), (17, .bool false), (18, .int .u64 (p : Int)), (19, .int .u64 (a : Int))] (by kernel_rfl) rfl ?_
  obtain ⟨p12, w13, r14, H15⟩ := H8.madeRow (P := Try.prog) (Instr.buildSlice 36 1 #[(0, .int .u64 (a : Int))]) (fun b_ => .slice (some ⟨b_, 0, none⟩) 1 1) [.int .u64 (a : Int)] 22 1 1 1 (by kernel_rfl) (by decide) (by decide) rfl
  have H15 : Hp w [] [.row (some ⟨p12, 0, none⟩) 1 1 22 1 (dg [a])] w13 := H15
  refine GL.sem (j := 3) (r14) [0, 1, 2, 6, 17, 18, 20] [(0, .int .u64 (a : Int)), (1, .int .u64 (p : Int)), (2, .bool false), (6, .bool false), (17, .bool false), (18, .int .u64 (p : Int)), (20, .slice (some ⟨p12, 0, none⟩) 1 1)] (by kernel_rfl) (by kernel_rfl) rfl ?_
  refine GL.call (j := 4) (Right5_1 p 1 a (some ⟨p12, 0, none⟩) 1 w13 (H15.rdRow 0 rfl)) (by kernel_rfl) rfl (fun e_ w16 hR => ?_)
  obtain ⟨rfl, H18⟩ := hR
  have H17 : Hp w [] [.row (some ⟨p12, 0, none⟩) 1 1 22 1 (dg [a])] w16 := H15.callNil H18
  refine ⟨_, rfl, [0, 1, 2, 6, 17, 21], [(0, .int .u64 (a : Int)), (1, .int .u64 (p : Int)), (2, .bool false), (6, .bool false), (17, .bool false), (21, .bool (decide (a ≤ 4611686018427387904 ∧ (1 ≤ p ∧ p ≤ 1099511627776) ∧ (1 ≤ 1 ∧ 1 ≤ 1000000))))], by kernel_rfl, ?_⟩
  refine GL.run (j := 5) 1 [0, 1, 2, 6, 7, 17] [(0, .int .u64 (a : Int)), (1, .int .u64 (p : Int)), (2, .bool false), (6, .bool false), (7, .bool (decide (a ≤ 4611686018427387904 ∧ (1 ≤ p ∧ p ≤ 1099511627776) ∧ (1 ≤ 1 ∧ 1 ≤ 1000000)))), (17, .bool false)] (by kernel_rfl) rfl ?_
  refine GL.k rfl hK11 (fun _ _ h => h) ?_
  refine G.seqK fun K19 hK20 => ?_
  refine G.region ?_
  refine GL.run (j := 3) 3 [0, 1, 2, 6, 7, 17, 23, 24, 25] [(0, .int .u64 (a : Int)), (1, .int .u64 (p : Int)), (2, .bool false), (6, .bool false), (7, .bool (decide (a ≤ 4611686018427387904 ∧ (1 ≤ p ∧ p ≤ 1099511627776) ∧ (1 ≤ 1 ∧ 1 ≤ 1000000)))), (17, .bool false), (23, .int .u64 (a : Int)), (24, .int .u64 (p : Int)), (25, .bool false)] (by kernel_rfl) rfl ?_
  refine GL.call (j := 4) (Value_down_calls a p ha hp w16) (by kernel_rfl) rfl (fun e_ w21 hR => ?_)
  obtain ⟨rfl, H23⟩ := hR
  have H22 : Hp w [] [.row (some ⟨p12, 0, none⟩) 1 1 22 1 (dg [a])] w21 := H17.callNil H23
  refine ⟨_, rfl, [0, 1, 2, 6, 7, 17, 26], [(0, .int .u64 (a : Int)), (1, .int .u64 (p : Int)), (2, .bool false), (6, .bool false), (7, .bool (decide (a ≤ 4611686018427387904 ∧ (1 ≤ p ∧ p ≤ 1099511627776) ∧ (1 ≤ 1 ∧ 1 ≤ 1000000)))), (17, .bool false), (26, .tuple #[.int .u64 (((valV a p false) : Nat) : Int), .int .i64 (((valE a p false) : Nat) : Int)])], by kernel_rfl, ?_⟩
  refine GL.run (j := 9) 5 [0, 1, 2, 6, 7, 8, 9, 17] [(0, .int .u64 (a : Int)), (1, .int .u64 (p : Int)), (2, .bool false), (6, .bool false), (7, .bool (decide (a ≤ 4611686018427387904 ∧ (1 ≤ p ∧ p ≤ 1099511627776) ∧ (1 ≤ 1 ∧ 1 ≤ 1000000)))), (8, .int .u64 (((valV a p false) : Nat) : Int)), (9, .int .i64 (((valE a p false) : Nat) : Int)), (17, .bool false)] (by kernel_rfl) rfl ?_
  refine GL.k rfl hK20 (fun _ _ h => h) ?_
  refine G.seqK fun K24 hK25 => ?_
  refine G.region ?_
  refine GL.run (j := 2) 2 [0, 1, 2, 6, 7, 8, 9, 17, 30, 31] [(0, .int .u64 (a : Int)), (1, .int .u64 (p : Int)), (2, .bool false), (6, .bool false), (7, .bool (decide (a ≤ 4611686018427387904 ∧ (1 ≤ p ∧ p ≤ 1099511627776) ∧ (1 ≤ 1 ∧ 1 ≤ 1000000)))), (8, .int .u64 (((valV a p false) : Nat) : Int)), (9, .int .i64 (((valE a p false) : Nat) : Int)), (17, .bool false), (30, .int .u64 (a : Int)), (31, .int .u64 (p : Int))] (by kernel_rfl) rfl ?_
  refine GL.call (j := 3) (Parts_calls a p ha hp w21) (by kernel_rfl) rfl (fun e_ w26 hR => ?_)
  obtain ⟨rfl, H28⟩ := hR
  have H27 : Hp w [] [.row (some ⟨p12, 0, none⟩) 1 1 22 1 (dg [a])] w26 := H22.callNil H28
  refine ⟨_, rfl, [0, 1, 2, 6, 7, 8, 9, 17, 32], [(0, .int .u64 (a : Int)), (1, .int .u64 (p : Int)), (2, .bool false), (6, .bool false), (7, .bool (decide (a ≤ 4611686018427387904 ∧ (1 ≤ p ∧ p ≤ 1099511627776) ∧ (1 ≤ 1 ∧ 1 ≤ 1000000)))), (8, .int .u64 (((valV a p false) : Nat) : Int)), (9, .int .i64 (((valE a p false) : Nat) : Int)), (17, .bool false), (32, .tuple #[.int .u64 (((parV a p) : Nat) : Int), .int .i64 (((parE a p) : Nat) : Int)])], by kernel_rfl, ?_⟩
  refine GL.run (j := 8) 5 [0, 1, 2, 6, 7, 8, 9, 10, 11, 17] [(0, .int .u64 (a : Int)), (1, .int .u64 (p : Int)), (2, .bool false), (6, .bool false), (7, .bool (decide (a ≤ 4611686018427387904 ∧ (1 ≤ p ∧ p ≤ 1099511627776) ∧ (1 ≤ 1 ∧ 1 ≤ 1000000)))), (8, .int .u64 (((valV a p false) : Nat) : Int)), (9, .int .i64 (((valE a p false) : Nat) : Int)), (10, .int .u64 (((parV a p) : Nat) : Int)), (11, .int .i64 (((parE a p) : Nat) : Int)), (17, .bool false)] (by kernel_rfl) rfl ?_
  refine GL.k rfl hK25 (fun _ _ h => h) ?_
  refine G.seqK fun K29 hK30 => ?_
  refine G.seqK fun K31 hK32 => ?_
  refine G.region ?_
  refine GL.run (j := 2) 2 [0, 1, 2, 6, 7, 8, 9, 10, 11, 17, 36] [(0, .int .u64 (a : Int)), (1, .int .u64 (p : Int)), (2, .bool false), (6, .bool false), (7, .bool (decide (a ≤ 4611686018427387904 ∧ (1 ≤ p ∧ p ≤ 1099511627776) ∧ (1 ≤ 1 ∧ 1 ≤ 1000000)))), (8, .int .u64 (((valV a p false) : Nat) : Int)), (9, .int .i64 (((valE a p false) : Nat) : Int)), (10, .int .u64 (((parV a p) : Nat) : Int)), (11, .int .i64 (((parE a p) : Nat) : Int)), (17, .bool false), (36, .bool (!(decide (a ≤ 4611686018427387904 ∧ (1 ≤ p ∧ p ≤ 1099511627776) ∧ (1 ≤ 1 ∧ 1 ≤ 1000000)))))] (by kernel_rfl) rfl ?_
  refine GL.k rfl hK32 (fun _ _ h => h) ?_
  cases hb33 : (decide (a ≤ 4611686018427387904 ∧ (1 ≤ p ∧ p ≤ 1099511627776) ∧ (1 ≤ 1 ∧ 1 ≤ 1000000)))
  · skip
    have hb33f := of_decide_eq_false hb33
    have hR := hb33f
    refine G.yes rfl ?_
    refine G.seqK fun K34 hK35 => ?_
    refine G.region ?_
    refine GL.run (j := 2) 2 [0, 1, 2, 6, 7, 8, 9, 10, 11, 17, 36, 37, 38] [(0, .int .u64 (a : Int)), (1, .int .u64 (p : Int)), (2, .bool false), (6, .bool false), (7, .bool false), (8, .int .u64 (((valV a p false) : Nat) : Int)), (9, .int .i64 (((valE a p false) : Nat) : Int)), (10, .int .u64 (((parV a p) : Nat) : Int)), (11, .int .i64 (((parE a p) : Nat) : Int)), (17, .bool false), (36, .bool true), (37, .int .u64 (((valV a p false) : Nat) : Int)), (38, .int .i64 (((valE a p false) : Nat) : Int))] (by kernel_rfl) rfl ?_
    refine GL.call (j := 3) (told_calls (valV a p false) (valE a p false) 0 false false (fun _ => val_no hR) (fun h => by cases h) w26) (by kernel_rfl) rfl (fun e_ w36 hR => ?_)
    obtain ⟨rfl, H38⟩ := hR
    have H37 : Hp w [] [.row (some ⟨p12, 0, none⟩) 1 1 22 1 (dg [a])] w36 := H27.callNil H38
    refine ⟨_, rfl, [0, 1, 2, 6, 7, 8, 9, 10, 11, 17, 36, 39], [(0, .int .u64 (a : Int)), (1, .int .u64 (p : Int)), (2, .bool false), (6, .bool false), (7, .bool false), (8, .int .u64 (((valV a p false) : Nat) : Int)), (9, .int .i64 (((valE a p false) : Nat) : Int)), (10, .int .u64 (((parV a p) : Nat) : Int)), (11, .int .i64 (((parE a p) : Nat) : Int)), (17, .bool false), (36, .bool true), (39, .bool true)], by kernel_rfl, ?_⟩
    refine GL.run (j := 6) 3 [0, 1, 2, 6, 7, 8, 9, 10, 11, 17, 36, 40, 41, 42] [(0, .int .u64 (a : Int)), (1, .int .u64 (p : Int)), (2, .bool false), (6, .bool false), (7, .bool false), (8, .int .u64 (((valV a p false) : Nat) : Int)), (9, .int .i64 (((valE a p false) : Nat) : Int)), (10, .int .u64 (((parV a p) : Nat) : Int)), (11, .int .i64 (((parE a p) : Nat) : Int)), (17, .bool false), (36, .bool true), (40, .bool true), (41, .int .u64 (((parV a p) : Nat) : Int)), (42, .int .i64 (((parE a p) : Nat) : Int))] (by kernel_rfl) rfl ?_
    refine GL.call (j := 7) (told_calls (parV a p) (parE a p) 0 false false (fun _ => par_no hR) (fun h => by cases h) w36) (by kernel_rfl) rfl (fun e_ w39 hR => ?_)
    obtain ⟨rfl, H41⟩ := hR
    have H40 : Hp w [] [.row (some ⟨p12, 0, none⟩) 1 1 22 1 (dg [a])] w39 := H37.callNil H41
    refine ⟨_, rfl, [0, 1, 2, 6, 7, 8, 9, 10, 11, 17, 36, 40, 43], [(0, .int .u64 (a : Int)), (1, .int .u64 (p : Int)), (2, .bool false), (6, .bool false), (7, .bool false), (8, .int .u64 (((valV a p false) : Nat) : Int)), (9, .int .i64 (((valE a p false) : Nat) : Int)), (10, .int .u64 (((parV a p) : Nat) : Int)), (11, .int .i64 (((parE a p) : Nat) : Int)), (17, .bool false), (36, .bool true), (40, .bool true), (43, .bool true)], by kernel_rfl, ?_⟩
    refine GL.run (j := 10) 3 [0, 1, 2, 6, 7, 8, 9, 10, 11, 17, 36, 45, 46] [(0, .int .u64 (a : Int)), (1, .int .u64 (p : Int)), (2, .bool false), (6, .bool false), (7, .bool false), (8, .int .u64 (((valV a p false) : Nat) : Int)), (9, .int .i64 (((valE a p false) : Nat) : Int)), (10, .int .u64 (((parV a p) : Nat) : Int)), (11, .int .i64 (((parE a p) : Nat) : Int)), (17, .bool false), (36, .bool true), (45, .bool true), (46, .int .u64 (p : Int))] (by kernel_rfl) rfl ?_
    refine GL.call (j := 11) (PRight_calls p w39) (by kernel_rfl) rfl (fun e_ w42 hR => ?_)
    obtain ⟨rfl, H44⟩ := hR
    have H43 : Hp w [] [.row (some ⟨p12, 0, none⟩) 1 1 22 1 (dg [a])] w42 := H40.callNil H44
    refine ⟨_, rfl, [0, 1, 2, 6, 7, 8, 9, 10, 11, 17, 36, 45, 47], [(0, .int .u64 (a : Int)), (1, .int .u64 (p : Int)), (2, .bool false), (6, .bool false), (7, .bool false), (8, .int .u64 (((valV a p false) : Nat) : Int)), (9, .int .i64 (((valE a p false) : Nat) : Int)), (10, .int .u64 (((parV a p) : Nat) : Int)), (11, .int .i64 (((parE a p) : Nat) : Int)), (17, .bool false), (36, .bool true), (45, .bool true), (47, .bool (decide (1 ≤ p ∧ p ≤ 1099511627776)))], by kernel_rfl, ?_⟩
    refine GL.run (j := 14) 3 [0, 1, 2, 6, 7, 8, 9, 10, 11, 17, 36, 45, 47, 50] [(0, .int .u64 (a : Int)), (1, .int .u64 (p : Int)), (2, .bool false), (6, .bool false), (7, .bool false), (8, .int .u64 (((valV a p false) : Nat) : Int)), (9, .int .i64 (((valE a p false) : Nat) : Int)), (10, .int .u64 (((parV a p) : Nat) : Int)), (11, .int .i64 (((parE a p) : Nat) : Int)), (17, .bool false), (36, .bool true), (45, .bool true), (47, .bool (decide (1 ≤ p ∧ p ≤ 1099511627776))), (50, .bool (decide (1 ≤ (p : Int))))] (by kernel_rfl) rfl ?_
    cases hb45 : (decide (1 ≤ (p : Int)))
    · skip
      have hb45f := of_decide_eq_false hb45
      refine GL.run (j := 20) 6 [0, 1, 2, 6, 7, 8, 9, 10, 11, 17, 36] [(0, .int .u64 (a : Int)), (1, .int .u64 (p : Int)), (2, .bool false), (6, .bool ((decide (1 ≤ p ∧ p ≤ 1099511627776)) == false)), (7, .bool false), (8, .int .u64 (((valV a p false) : Nat) : Int)), (9, .int .i64 (((valE a p false) : Nat) : Int)), (10, .int .u64 (((parV a p) : Nat) : Int)), (11, .int .i64 (((parE a p) : Nat) : Int)), (17, .bool false), (36, .bool true)] (by kernel_rfl) rfl ?_
      refine GL.k rfl hK35 (fun _ _ h => h) ?_
      refine G.ret ?_
      intro F_ hF_ hM_
      refine hRet _ _ (bodyPost_1 rfl (RV.tmp rfl) ?_ F_ hF_ hM_)
      have hb46 : ((decide (1 ≤ p ∧ p ≤ 1099511627776)) == false) = true := by rw [beq_iff_eq, Bool.eq_iff_iff]; simp only [decide_eq_true_eq, Bool.true_eq_false, Bool.false_eq_true, true_iff, false_iff, iff_false, iff_true]; omega
      rw [hb46]
      exact ⟨rfl, H43.sub (List.nil_sublist _)⟩
    · skip
      have hb45f := of_decide_eq_true hb45
      refine GL.run (j := 20) 6 [0, 1, 2, 6, 7, 8, 9, 10, 11, 17, 36] [(0, .int .u64 (a : Int)), (1, .int .u64 (p : Int)), (2, .bool false), (6, .bool ((decide (1 ≤ p ∧ p ≤ 1099511627776)) == (decide ((p : Int) ≤ 1099511627776)))), (7, .bool false), (8, .int .u64 (((valV a p false) : Nat) : Int)), (9, .int .i64 (((valE a p false) : Nat) : Int)), (10, .int .u64 (((parV a p) : Nat) : Int)), (11, .int .i64 (((parE a p) : Nat) : Int)), (17, .bool false), (36, .bool true)] (by kernel_rfl) rfl ?_
      refine GL.k rfl hK35 (fun _ _ h => h) ?_
      refine G.ret ?_
      intro F_ hF_ hM_
      refine hRet _ _ (bodyPost_1 rfl (RV.tmp rfl) ?_ F_ hF_ hM_)
      have hb47 : ((decide (1 ≤ p ∧ p ≤ 1099511627776)) == (decide ((p : Int) ≤ 1099511627776))) = true := by rw [beq_iff_eq, Bool.eq_iff_iff]; simp only [decide_eq_true_eq, Bool.true_eq_false, Bool.false_eq_true, true_iff, false_iff, iff_false, iff_true]; omega
      rw [hb47]
      exact ⟨rfl, H43.sub (List.nil_sublist _)⟩
  · skip
    have hb33f := of_decide_eq_true hb33
    have hR := hb33f
    refine G.no rfl ?_
    refine G.skipK hK30 (fun _ _ h => h) ?_
    refine G.seqK fun K48 hK49 => ?_
    refine G.region ?_
    refine GL.run (j := 2) 2 [0, 1, 2, 6, 7, 8, 9, 10, 11, 17, 36, 57, 58] [(0, .int .u64 (a : Int)), (1, .int .u64 (p : Int)), (2, .bool false), (6, .bool false), (7, .bool true), (8, .int .u64 (((valV a p false) : Nat) : Int)), (9, .int .i64 (((valE a p false) : Nat) : Int)), (10, .int .u64 (((parV a p) : Nat) : Int)), (11, .int .i64 (((parE a p) : Nat) : Int)), (17, .bool false), (36, .bool false), (57, .int .u64 (a : Int)), (58, .int .u64 (p : Int))] (by kernel_rfl) rfl ?_
    obtain ⟨p50, w51, r52, H53⟩ := H27.madeRow (P := Try.prog) (Instr.buildSlice 36 2 #[(0, .int .u64 (a : Int)), (1, .int .u64 (p : Int))]) (fun b_ => .slice (some ⟨b_, 0, none⟩) 2 2) [.int .u64 (a : Int), .int .u64 (p : Int)] 22 2 2 1 (by kernel_rfl) (by decide) (by decide) rfl
    have H53 : Hp w [] [.row (some ⟨p12, 0, none⟩) 1 1 22 1 (dg [a]), .row (some ⟨p50, 0, none⟩) 2 2 22 1 (dg [a, p])] w51 := H53
    refine GL.sem (j := 3) (r52) [0, 1, 2, 6, 7, 8, 9, 10, 11, 17, 36, 59] [(0, .int .u64 (a : Int)), (1, .int .u64 (p : Int)), (2, .bool false), (6, .bool false), (7, .bool true), (8, .int .u64 (((valV a p false) : Nat) : Int)), (9, .int .i64 (((valE a p false) : Nat) : Int)), (10, .int .u64 (((parV a p) : Nat) : Int)), (11, .int .i64 (((parE a p) : Nat) : Int)), (17, .bool false), (36, .bool false), (59, .slice (some ⟨p50, 0, none⟩) 2 2)] (by kernel_rfl) (by kernel_rfl) rfl ?_
    have hN59 : ndg (a * p) ≤ 8 := ndg_mul (ndg_K ha) (ndg_K hp)
    refine GL.call (j := 4) (Product5_2 a p ha hp (some ⟨p50, 0, none⟩) 2 w51 (H53.rdRow 1 rfl)) (by kernel_rfl) rfl (fun e_ w58 hR => ?_)
    obtain ⟨A54, c55, rfl, H57⟩ := hR
    have H56 : Hp w [] [.row (some ⟨p12, 0, none⟩) 1 1 22 1 (dg [a]), .row (some ⟨p50, 0, none⟩) 2 2 22 1 (dg [a, p]), .row A54 (ndg (a * p)) c55 22 1 (dg (digs (a * p)))] w58 := H53.callNew H57
    refine ⟨_, rfl, [0, 1, 2, 6, 7, 8, 9, 10, 11, 17, 36, 60], [(0, .int .u64 (a : Int)), (1, .int .u64 (p : Int)), (2, .bool false), (6, .bool false), (7, .bool true), (8, .int .u64 (((valV a p false) : Nat) : Int)), (9, .int .i64 (((valE a p false) : Nat) : Int)), (10, .int .u64 (((parV a p) : Nat) : Int)), (11, .int .i64 (((parE a p) : Nat) : Int)), (17, .bool false), (36, .bool false), (60, .slice A54 (ndg (a * p)) c55)], by kernel_rfl, ?_⟩
    have hN65 : ndg 100000000 ≤ 4 := ndg_K (by decide)
    refine GL.call (j := 5) (N5_calls 100000000 (by decide) w58) (by kernel_rfl) rfl (fun e_ w64 hR => ?_)
    obtain ⟨A60, c61, rfl, H63⟩ := hR
    have H62 : Hp w [] [.row (some ⟨p12, 0, none⟩) 1 1 22 1 (dg [a]), .row (some ⟨p50, 0, none⟩) 2 2 22 1 (dg [a, p]), .row A54 (ndg (a * p)) c55 22 1 (dg (digs (a * p))), .row A60 (ndg 100000000) c61 22 1 (dg (digs 100000000))] w64 := H56.callNew H63
    refine ⟨_, rfl, [0, 1, 2, 6, 7, 8, 9, 10, 11, 17, 36, 60, 61], [(0, .int .u64 (a : Int)), (1, .int .u64 (p : Int)), (2, .bool false), (6, .bool false), (7, .bool true), (8, .int .u64 (((valV a p false) : Nat) : Int)), (9, .int .i64 (((valE a p false) : Nat) : Int)), (10, .int .u64 (((parV a p) : Nat) : Int)), (11, .int .i64 (((parE a p) : Nat) : Int)), (17, .bool false), (36, .bool false), (60, .slice A54 (ndg (a * p)) c55), (61, .slice A60 (ndg 100000000) c61)], by kernel_rfl, ?_⟩
    refine GL.run (j := 6) 1 [0, 1, 2, 6, 7, 8, 9, 10, 11, 17, 36, 60, 61, 62] [(0, .int .u64 (a : Int)), (1, .int .u64 (p : Int)), (2, .bool false), (6, .bool false), (7, .bool true), (8, .int .u64 (((valV a p false) : Nat) : Int)), (9, .int .i64 (((valE a p false) : Nat) : Int)), (10, .int .u64 (((parV a p) : Nat) : Int)), (11, .int .i64 (((parE a p) : Nat) : Int)), (17, .bool false), (36, .bool false), (60, .slice A54 (ndg (a * p)) c55), (61, .slice A60 (ndg 100000000) c61), (62, .bool false)] (by kernel_rfl) rfl ?_
    refine GL.call (j := 7) (Divide5_down (a * p) 100000000 A54 c55 A60 c61 w64 (H62.rdRow 2 rfl) (H62.rdRow 3 rfl) (Nat.le_trans hN59 (by decide)) (Nat.le_trans hN65 (by decide)) (by decide)) (by kernel_rfl) rfl (fun e_ w66 hR => ?_)
    obtain ⟨rfl, H68⟩ := hR
    have H67 : Hp w [] [.row (some ⟨p12, 0, none⟩) 1 1 22 1 (dg [a]), .row (some ⟨p50, 0, none⟩) 2 2 22 1 (dg [a, p]), .row A54 (ndg (a * p)) c55 22 1 (dg (digs (a * p))), .row A60 (ndg 100000000) c61 22 1 (dg (digs 100000000))] w66 := H62.callNil H68
    refine ⟨_, rfl, [0, 1, 2, 6, 7, 8, 9, 10, 11, 17, 36, 63], [(0, .int .u64 (a : Int)), (1, .int .u64 (p : Int)), (2, .bool false), (6, .bool false), (7, .bool true), (8, .int .u64 (((valV a p false) : Nat) : Int)), (9, .int .i64 (((valE a p false) : Nat) : Int)), (10, .int .u64 (((parV a p) : Nat) : Int)), (11, .int .i64 (((parE a p) : Nat) : Int)), (17, .bool false), (36, .bool false), (63, .tuple #[.int .u64 (((divV (a * p) 100000000 false) : Nat) : Int), .bool (divF (a * p) 100000000 false)])], by kernel_rfl, ?_⟩
    refine GL.run (j := 12) 5 [0, 1, 2, 6, 7, 8, 9, 10, 11, 12, 13, 17, 36] [(0, .int .u64 (a : Int)), (1, .int .u64 (p : Int)), (2, .bool false), (6, .bool false), (7, .bool true), (8, .int .u64 (((valV a p false) : Nat) : Int)), (9, .int .i64 (((valE a p false) : Nat) : Int)), (10, .int .u64 (((parV a p) : Nat) : Int)), (11, .int .i64 (((parE a p) : Nat) : Int)), (12, .int .u64 (((divV (a * p) 100000000 false) : Nat) : Int)), (13, .bool (divF (a * p) 100000000 false)), (17, .bool false), (36, .bool false)] (by kernel_rfl) rfl ?_
    refine GL.k rfl hK49 (fun _ _ h => h) ?_
    refine G.seqK fun K69 hK70 => ?_
    refine G.region ?_
    refine GL.run (j := 1) 1 [0, 1, 2, 6, 7, 8, 9, 10, 11, 12, 13, 17, 36, 67] [(0, .int .u64 (a : Int)), (1, .int .u64 (p : Int)), (2, .bool false), (6, .bool false), (7, .bool true), (8, .int .u64 (((valV a p false) : Nat) : Int)), (9, .int .i64 (((valE a p false) : Nat) : Int)), (10, .int .u64 (((parV a p) : Nat) : Int)), (11, .int .i64 (((parE a p) : Nat) : Int)), (12, .int .u64 (((divV (a * p) 100000000 false) : Nat) : Int)), (13, .bool (divF (a * p) 100000000 false)), (17, .bool false), (36, .bool false), (67, .int .u64 (a : Int))] (by kernel_rfl) rfl ?_
    obtain ⟨p71, w72, r73, H74⟩ := H67.madeRow (P := Try.prog) (Instr.buildSlice 36 2 #[(0, .int .u64 (a : Int)), (1, .int .u64 100000000)]) (fun b_ => .slice (some ⟨b_, 0, none⟩) 2 2) [.int .u64 (a : Int), .int .u64 100000000] 22 2 2 1 (by kernel_rfl) (by decide) (by decide) rfl
    have H74 : Hp w [] [.row (some ⟨p12, 0, none⟩) 1 1 22 1 (dg [a]), .row (some ⟨p50, 0, none⟩) 2 2 22 1 (dg [a, p]), .row A54 (ndg (a * p)) c55 22 1 (dg (digs (a * p))), .row A60 (ndg 100000000) c61 22 1 (dg (digs 100000000)), .row (some ⟨p71, 0, none⟩) 2 2 22 1 (dg [a, 100000000])] w72 := H74
    refine GL.sem (j := 2) (r73) [0, 1, 2, 6, 7, 8, 9, 10, 11, 12, 13, 17, 36, 68] [(0, .int .u64 (a : Int)), (1, .int .u64 (p : Int)), (2, .bool false), (6, .bool false), (7, .bool true), (8, .int .u64 (((valV a p false) : Nat) : Int)), (9, .int .i64 (((valE a p false) : Nat) : Int)), (10, .int .u64 (((parV a p) : Nat) : Int)), (11, .int .i64 (((parE a p) : Nat) : Int)), (12, .int .u64 (((divV (a * p) 100000000 false) : Nat) : Int)), (13, .bool (divF (a * p) 100000000 false)), (17, .bool false), (36, .bool false), (68, .slice (some ⟨p71, 0, none⟩) 2 2)] (by kernel_rfl) (by kernel_rfl) rfl ?_
    have hN80 : ndg (a * 100000000) ≤ 8 := ndg_mul (ndg_K ha) (ndg_K (by decide))
    refine GL.call (j := 3) (Product5_2 a 100000000 ha (by decide) (some ⟨p71, 0, none⟩) 2 w72 (H74.rdRow 4 rfl)) (by kernel_rfl) rfl (fun e_ w79 hR => ?_)
    obtain ⟨A75, c76, rfl, H78⟩ := hR
    have H77 : Hp w [] [.row (some ⟨p12, 0, none⟩) 1 1 22 1 (dg [a]), .row (some ⟨p50, 0, none⟩) 2 2 22 1 (dg [a, p]), .row A54 (ndg (a * p)) c55 22 1 (dg (digs (a * p))), .row A60 (ndg 100000000) c61 22 1 (dg (digs 100000000)), .row (some ⟨p71, 0, none⟩) 2 2 22 1 (dg [a, 100000000]), .row A75 (ndg (a * 100000000)) c76 22 1 (dg (digs (a * 100000000)))] w79 := H74.callNew H78
    refine ⟨_, rfl, [0, 1, 2, 6, 7, 8, 9, 10, 11, 12, 13, 17, 36, 69], [(0, .int .u64 (a : Int)), (1, .int .u64 (p : Int)), (2, .bool false), (6, .bool false), (7, .bool true), (8, .int .u64 (((valV a p false) : Nat) : Int)), (9, .int .i64 (((valE a p false) : Nat) : Int)), (10, .int .u64 (((parV a p) : Nat) : Int)), (11, .int .i64 (((parE a p) : Nat) : Int)), (12, .int .u64 (((divV (a * p) 100000000 false) : Nat) : Int)), (13, .bool (divF (a * p) 100000000 false)), (17, .bool false), (36, .bool false), (69, .slice A75 (ndg (a * 100000000)) c76)], by kernel_rfl, ?_⟩
    refine GL.run (j := 4) 1 [0, 1, 2, 6, 7, 8, 9, 10, 11, 12, 13, 17, 36, 69, 70] [(0, .int .u64 (a : Int)), (1, .int .u64 (p : Int)), (2, .bool false), (6, .bool false), (7, .bool true), (8, .int .u64 (((valV a p false) : Nat) : Int)), (9, .int .i64 (((valE a p false) : Nat) : Int)), (10, .int .u64 (((parV a p) : Nat) : Int)), (11, .int .i64 (((parE a p) : Nat) : Int)), (12, .int .u64 (((divV (a * p) 100000000 false) : Nat) : Int)), (13, .bool (divF (a * p) 100000000 false)), (17, .bool false), (36, .bool false), (69, .slice A75 (ndg (a * 100000000)) c76), (70, .int .u64 (p : Int))] (by kernel_rfl) rfl ?_
    have hN86 : ndg p ≤ 4 := ndg_K hp
    refine GL.call (j := 5) (N5_calls p hp w79) (by kernel_rfl) rfl (fun e_ w85 hR => ?_)
    obtain ⟨A81, c82, rfl, H84⟩ := hR
    have H83 : Hp w [] [.row (some ⟨p12, 0, none⟩) 1 1 22 1 (dg [a]), .row (some ⟨p50, 0, none⟩) 2 2 22 1 (dg [a, p]), .row A54 (ndg (a * p)) c55 22 1 (dg (digs (a * p))), .row A60 (ndg 100000000) c61 22 1 (dg (digs 100000000)), .row (some ⟨p71, 0, none⟩) 2 2 22 1 (dg [a, 100000000]), .row A75 (ndg (a * 100000000)) c76 22 1 (dg (digs (a * 100000000))), .row A81 (ndg p) c82 22 1 (dg (digs p))] w85 := H77.callNew H84
    refine ⟨_, rfl, [0, 1, 2, 6, 7, 8, 9, 10, 11, 12, 13, 17, 36, 69, 71], [(0, .int .u64 (a : Int)), (1, .int .u64 (p : Int)), (2, .bool false), (6, .bool false), (7, .bool true), (8, .int .u64 (((valV a p false) : Nat) : Int)), (9, .int .i64 (((valE a p false) : Nat) : Int)), (10, .int .u64 (((parV a p) : Nat) : Int)), (11, .int .i64 (((parE a p) : Nat) : Int)), (12, .int .u64 (((divV (a * p) 100000000 false) : Nat) : Int)), (13, .bool (divF (a * p) 100000000 false)), (17, .bool false), (36, .bool false), (69, .slice A75 (ndg (a * 100000000)) c76), (71, .slice A81 (ndg p) c82)], by kernel_rfl, ?_⟩
    refine GL.call (j := 6) (Divide5_down (a * 100000000) p A75 c76 A81 c82 w85 (H83.rdRow 5 rfl) (H83.rdRow 6 rfl) (Nat.le_trans hN80 (by decide)) (Nat.le_trans hN86 (by decide)) (by omega)) (by kernel_rfl) rfl (fun e_ w87 hR => ?_)
    obtain ⟨rfl, H89⟩ := hR
    have H88 : Hp w [] [.row (some ⟨p12, 0, none⟩) 1 1 22 1 (dg [a]), .row (some ⟨p50, 0, none⟩) 2 2 22 1 (dg [a, p]), .row A54 (ndg (a * p)) c55 22 1 (dg (digs (a * p))), .row A60 (ndg 100000000) c61 22 1 (dg (digs 100000000)), .row (some ⟨p71, 0, none⟩) 2 2 22 1 (dg [a, 100000000]), .row A75 (ndg (a * 100000000)) c76 22 1 (dg (digs (a * 100000000))), .row A81 (ndg p) c82 22 1 (dg (digs p))] w87 := H83.callNil H89
    refine ⟨_, rfl, [0, 1, 2, 6, 7, 8, 9, 10, 11, 12, 13, 17, 36, 72], [(0, .int .u64 (a : Int)), (1, .int .u64 (p : Int)), (2, .bool false), (6, .bool false), (7, .bool true), (8, .int .u64 (((valV a p false) : Nat) : Int)), (9, .int .i64 (((valE a p false) : Nat) : Int)), (10, .int .u64 (((parV a p) : Nat) : Int)), (11, .int .i64 (((parE a p) : Nat) : Int)), (12, .int .u64 (((divV (a * p) 100000000 false) : Nat) : Int)), (13, .bool (divF (a * p) 100000000 false)), (17, .bool false), (36, .bool false), (72, .tuple #[.int .u64 (((divV (a * 100000000) p false) : Nat) : Int), .bool (divF (a * 100000000) p false)])], by kernel_rfl, ?_⟩
    refine GL.run (j := 11) 5 [0, 1, 2, 6, 7, 8, 9, 10, 11, 12, 13, 14, 15, 17, 36] [(0, .int .u64 (a : Int)), (1, .int .u64 (p : Int)), (2, .bool false), (6, .bool false), (7, .bool true), (8, .int .u64 (((valV a p false) : Nat) : Int)), (9, .int .i64 (((valE a p false) : Nat) : Int)), (10, .int .u64 (((parV a p) : Nat) : Int)), (11, .int .i64 (((parE a p) : Nat) : Int)), (12, .int .u64 (((divV (a * p) 100000000 false) : Nat) : Int)), (13, .bool (divF (a * p) 100000000 false)), (14, .int .u64 (((divV (a * 100000000) p false) : Nat) : Int)), (15, .bool (divF (a * 100000000) p false)), (17, .bool false), (36, .bool false)] (by kernel_rfl) rfl ?_
    refine GL.k rfl hK70 (fun _ _ h => h) ?_
    refine G.seqK fun K90 hK91 => ?_
    refine G.region ?_
    refine GL.run (j := 4) 4 [0, 1, 2, 6, 7, 8, 9, 10, 11, 12, 13, 14, 15, 17, 36, 75, 76, 77, 78] [(0, .int .u64 (a : Int)), (1, .int .u64 (p : Int)), (2, .bool false), (6, .bool false), (7, .bool true), (8, .int .u64 (((valV a p false) : Nat) : Int)), (9, .int .i64 (((valE a p false) : Nat) : Int)), (10, .int .u64 (((parV a p) : Nat) : Int)), (11, .int .i64 (((parE a p) : Nat) : Int)), (12, .int .u64 (((divV (a * p) 100000000 false) : Nat) : Int)), (13, .bool (divF (a * p) 100000000 false)), (14, .int .u64 (((divV (a * 100000000) p false) : Nat) : Int)), (15, .bool (divF (a * 100000000) p false)), (17, .bool false), (36, .bool false), (75, .int .u64 (((valV a p false) : Nat) : Int)), (76, .int .i64 (((valE a p false) : Nat) : Int)), (77, .int .u64 (((divV (a * p) 100000000 false) : Nat) : Int)), (78, .bool (divF (a * p) 100000000 false))] (by kernel_rfl) rfl ?_
    refine GL.call (j := 5) (told_calls (valV a p false) (valE a p false) (divV (a * p) 100000000 false) true (divF (a * p) 100000000 false) (fun h => by cases h) (fun _ => val_yes hR) w87) (by kernel_rfl) rfl (fun e_ w92 hR => ?_)
    obtain ⟨rfl, H94⟩ := hR
    have H93 : Hp w [] [.row (some ⟨p12, 0, none⟩) 1 1 22 1 (dg [a]), .row (some ⟨p50, 0, none⟩) 2 2 22 1 (dg [a, p]), .row A54 (ndg (a * p)) c55 22 1 (dg (digs (a * p))), .row A60 (ndg 100000000) c61 22 1 (dg (digs 100000000)), .row (some ⟨p71, 0, none⟩) 2 2 22 1 (dg [a, 100000000]), .row A75 (ndg (a * 100000000)) c76 22 1 (dg (digs (a * 100000000))), .row A81 (ndg p) c82 22 1 (dg (digs p))] w92 := H88.callNil H94
    refine ⟨_, rfl, [0, 1, 2, 6, 7, 8, 9, 10, 11, 12, 13, 14, 15, 17, 36, 79], [(0, .int .u64 (a : Int)), (1, .int .u64 (p : Int)), (2, .bool false), (6, .bool false), (7, .bool true), (8, .int .u64 (((valV a p false) : Nat) : Int)), (9, .int .i64 (((valE a p false) : Nat) : Int)), (10, .int .u64 (((parV a p) : Nat) : Int)), (11, .int .i64 (((parE a p) : Nat) : Int)), (12, .int .u64 (((divV (a * p) 100000000 false) : Nat) : Int)), (13, .bool (divF (a * p) 100000000 false)), (14, .int .u64 (((divV (a * 100000000) p false) : Nat) : Int)), (15, .bool (divF (a * 100000000) p false)), (17, .bool false), (36, .bool false), (79, .bool true)], by kernel_rfl, ?_⟩
    refine GL.run (j := 10) 5 [0, 1, 2, 6, 7, 8, 9, 10, 11, 12, 13, 14, 15, 17, 36, 80, 81, 82, 83, 84] [(0, .int .u64 (a : Int)), (1, .int .u64 (p : Int)), (2, .bool false), (6, .bool false), (7, .bool true), (8, .int .u64 (((valV a p false) : Nat) : Int)), (9, .int .i64 (((valE a p false) : Nat) : Int)), (10, .int .u64 (((parV a p) : Nat) : Int)), (11, .int .i64 (((parE a p) : Nat) : Int)), (12, .int .u64 (((divV (a * p) 100000000 false) : Nat) : Int)), (13, .bool (divF (a * p) 100000000 false)), (14, .int .u64 (((divV (a * 100000000) p false) : Nat) : Int)), (15, .bool (divF (a * 100000000) p false)), (17, .bool false), (36, .bool false), (80, .bool true), (81, .int .u64 (((parV a p) : Nat) : Int)), (82, .int .i64 (((parE a p) : Nat) : Int)), (83, .int .u64 (((divV (a * 100000000) p false) : Nat) : Int)), (84, .bool (divF (a * 100000000) p false))] (by kernel_rfl) rfl ?_
    refine GL.call (j := 11) (told_calls (parV a p) (parE a p) (divV (a * 100000000) p false) true (divF (a * 100000000) p false) (fun h => by cases h) (fun _ => par_yes hR) w92) (by kernel_rfl) rfl (fun e_ w95 hR => ?_)
    obtain ⟨rfl, H97⟩ := hR
    have H96 : Hp w [] [.row (some ⟨p12, 0, none⟩) 1 1 22 1 (dg [a]), .row (some ⟨p50, 0, none⟩) 2 2 22 1 (dg [a, p]), .row A54 (ndg (a * p)) c55 22 1 (dg (digs (a * p))), .row A60 (ndg 100000000) c61 22 1 (dg (digs 100000000)), .row (some ⟨p71, 0, none⟩) 2 2 22 1 (dg [a, 100000000]), .row A75 (ndg (a * 100000000)) c76 22 1 (dg (digs (a * 100000000))), .row A81 (ndg p) c82 22 1 (dg (digs p))] w95 := H93.callNil H97
    refine ⟨_, rfl, [0, 1, 2, 6, 7, 8, 9, 10, 11, 12, 13, 14, 15, 17, 36, 80, 85], [(0, .int .u64 (a : Int)), (1, .int .u64 (p : Int)), (2, .bool false), (6, .bool false), (7, .bool true), (8, .int .u64 (((valV a p false) : Nat) : Int)), (9, .int .i64 (((valE a p false) : Nat) : Int)), (10, .int .u64 (((parV a p) : Nat) : Int)), (11, .int .i64 (((parE a p) : Nat) : Int)), (12, .int .u64 (((divV (a * p) 100000000 false) : Nat) : Int)), (13, .bool (divF (a * p) 100000000 false)), (14, .int .u64 (((divV (a * 100000000) p false) : Nat) : Int)), (15, .bool (divF (a * 100000000) p false)), (17, .bool false), (36, .bool false), (80, .bool true), (85, .bool true)], by kernel_rfl, ?_⟩
    refine GL.run (j := 13) 2 [0, 1, 2, 6, 7, 8, 9, 10, 11, 12, 13, 14, 15, 17, 36] [(0, .int .u64 (a : Int)), (1, .int .u64 (p : Int)), (2, .bool false), (6, .bool true), (7, .bool true), (8, .int .u64 (((valV a p false) : Nat) : Int)), (9, .int .i64 (((valE a p false) : Nat) : Int)), (10, .int .u64 (((parV a p) : Nat) : Int)), (11, .int .i64 (((parE a p) : Nat) : Int)), (12, .int .u64 (((divV (a * p) 100000000 false) : Nat) : Int)), (13, .bool (divF (a * p) 100000000 false)), (14, .int .u64 (((divV (a * 100000000) p false) : Nat) : Int)), (15, .bool (divF (a * 100000000) p false)), (17, .bool false), (36, .bool false)] (by kernel_rfl) rfl ?_
    refine GL.k rfl hK91 (fun _ _ h => h) ?_
    refine G.ret ?_
    intro F_ hF_ hM_
    refine hRet _ _ (bodyPost_1 rfl (RV.tmp rfl) ?_ F_ hF_ hM_)
    exact ⟨rfl, H96.sub (List.nil_sublist _)⟩
theorem RateValues_calls (a p : Nat) (m : Bool) (ha : a < K) (hp : p < K) (w : World) : Calls Try.prog 4 #[.int .u64 (a : Int), .int .u64 (p : Int), .bool m] w fun e w' => e = .returned (.bool true) ∧ Hp w [] [] w' := by
  cases m
  · exact RateValues_false a p ha hp w
  · exact RateValues_true a p ha hp w
end Go.Proofs.Ytfhjoojifjmnlaa
