/- The contracts of package rate. -/
import Derived.Test.YtfhjoojifjmnlaaMoney
import Derived.Test.YtfhjoojifjmnlaaNb
namespace Go.Proofs.Ytfhjoojifjmnlaa
open Go.RowKit
theorem PRight_calls (p : Nat) (w : World) : Calls Try.prog 13 #[.int .u64 (p : Int)] w fun e w' => e = .returned (.bool (decide (1 ≤ p ∧ p ≤ 1099511627776))) ∧ Hp w [] [] w' := by
  refine calls_G (args := [.int .u64 (p : Int)]) Try.func13 rfl Try.ntmps13 rfl ?_
  intro Q0 hRet hNor hPan
  have H := Hp.start w
  have H : Hp w [] [] w := H
  refine G.seqK fun K1 hK2 => ?_
  refine G.region ?_
  refine GL.run (j := 1) 1 [0] [(0, .int .u64 (p : Int))] (by kernel_rfl) rfl ?_
  refine GL.k rfl hK2 (fun _ _ h => h) ?_
  refine G.seqK fun K3 hK4 => ?_
  refine G.region ?_
  refine GL.run (j := 3) 3 [0, 5] [(0, .int .u64 (p : Int)), (5, .bool (decide (1 ≤ (p : Int))))] (by kernel_rfl) rfl ?_
  cases hb5 : (decide (1 ≤ (p : Int)))
  · skip
    have hb5f := of_decide_eq_false hb5
    refine GL.run (j := 7) 4 [2] [(2, .bool false)] (by kernel_rfl) rfl ?_
    refine GL.k rfl hK4 (fun _ _ h => h) ?_
    refine G.ret ?_
    intro F_ hF_ hM_
    refine hRet _ _ (bodyPost_1 rfl (RV.tmp rfl) ?_ F_ hF_ hM_)
    have e0 : (false : Bool) = decide (1 ≤ p ∧ p ≤ 1099511627776) := by
      rw [Bool.eq_iff_iff]
      simp only [decide_eq_true_eq, Bool.true_eq_false, Bool.false_eq_true, true_iff, false_iff]
      omega
    rw [e0]
    exact ⟨rfl, H.sub (List.nil_sublist _)⟩
  · skip
    have hb5f := of_decide_eq_true hb5
    refine GL.run (j := 7) 4 [2] [(2, .bool (decide ((p : Int) ≤ 1099511627776)))] (by kernel_rfl) rfl ?_
    refine GL.k rfl hK4 (fun _ _ h => h) ?_
    refine G.ret ?_
    intro F_ hF_ hM_
    refine hRet _ _ (bodyPost_1 rfl (RV.tmp rfl) ?_ F_ hF_ hM_)
    have e0 : ((decide ((p : Int) ≤ 1099511627776)) : Bool) = decide (1 ≤ p ∧ p ≤ 1099511627776) := by
      rw [Bool.eq_iff_iff]
      simp only [decide_eq_true_eq, Bool.true_eq_false, Bool.false_eq_true, true_iff, false_iff]
      omega
    rw [e0]
    exact ⟨rfl, H.sub (List.nil_sublist _)⟩
theorem PThr_calls (p : Nat) (w : World) : Calls Try.prog 32 #[.int .u64 (p : Int)] w fun e w' => e = .returned (.bool (decide (1 ≤ p ∧ p ≤ 1000000))) ∧ Hp w [] [] w' := by
  refine calls_G (args := [.int .u64 (p : Int)]) Try.func32 rfl Try.ntmps32 rfl ?_
  intro Q0 hRet hNor hPan
  have H := Hp.start w
  have H : Hp w [] [] w := H
  refine G.seqK fun K1 hK2 => ?_
  refine G.region ?_
  refine GL.run (j := 1) 1 [0] [(0, .int .u64 (p : Int))] (by kernel_rfl) rfl ?_
  refine GL.k rfl hK2 (fun _ _ h => h) ?_
  refine G.seqK fun K3 hK4 => ?_
  refine G.region ?_
  refine GL.run (j := 3) 3 [0, 5] [(0, .int .u64 (p : Int)), (5, .bool (decide (1 ≤ (p : Int))))] (by kernel_rfl) rfl ?_
  cases hb5 : (decide (1 ≤ (p : Int)))
  · skip
    have hb5f := of_decide_eq_false hb5
    refine GL.run (j := 7) 4 [2] [(2, .bool false)] (by kernel_rfl) rfl ?_
    refine GL.k rfl hK4 (fun _ _ h => h) ?_
    refine G.ret ?_
    intro F_ hF_ hM_
    refine hRet _ _ (bodyPost_1 rfl (RV.tmp rfl) ?_ F_ hF_ hM_)
    have e0 : (false : Bool) = decide (1 ≤ p ∧ p ≤ 1000000) := by
      rw [Bool.eq_iff_iff]
      simp only [decide_eq_true_eq, Bool.true_eq_false, Bool.false_eq_true, true_iff, false_iff]
      omega
    rw [e0]
    exact ⟨rfl, H.sub (List.nil_sublist _)⟩
  · skip
    have hb5f := of_decide_eq_true hb5
    refine GL.run (j := 7) 4 [2] [(2, .bool (decide ((p : Int) ≤ 1000000)))] (by kernel_rfl) rfl ?_
    refine GL.k rfl hK4 (fun _ _ h => h) ?_
    refine G.ret ?_
    intro F_ hF_ hM_
    refine hRet _ _ (bodyPost_1 rfl (RV.tmp rfl) ?_ F_ hF_ hM_)
    have e0 : ((decide ((p : Int) ≤ 1000000)) : Bool) = decide (1 ≤ p ∧ p ≤ 1000000) := by
      rw [Bool.eq_iff_iff]
      simp only [decide_eq_true_eq, Bool.true_eq_false, Bool.false_eq_true, true_iff, false_iff]
      omega
    rw [e0]
    exact ⟨rfl, H.sub (List.nil_sublist _)⟩
theorem right2_calls (p t a b : Nat) (A : Option Addr) (c : Nat) (w : World) (hr : RdS w A [.int .u64 (a : Int), .int .u64 (b : Int)]) : Calls Try.prog 22 #[.int .u64 (p : Int), .int .u64 (t : Int), .slice A 2 c] w fun e w' => e = .returned (.bool (decide (a ≤ 4611686018427387904 ∧ b ≤ 4611686018427387904 ∧ (1 ≤ p ∧ p ≤ 1099511627776) ∧ (1 ≤ t ∧ t ≤ 1000000)))) ∧ Hp w [] [] w' := by
  refine calls_G (args := [.int .u64 (p : Int), .int .u64 (t : Int), .slice A 2 c]) Try.func22 rfl Try.ntmps22 rfl ?_
  intro Q0 hRet hNor hPan
  have H := Hp.start w
  have H : Hp w [] [] w := H
  refine G.seqK fun K1 hK2 => ?_
  refine G.region ?_
  refine GL.run (j := 1) 1 [0, 1, 2] [(0, .int .u64 (p : Int)), (1, .int .u64 (t : Int)), (2, .slice A 2 c)] (by kernel_rfl) rfl ?_
  refine GL.k rfl hK2 (fun _ _ h => h) ?_
  refine G.seqK fun K3 hK4 => ?_
  refine G.seqK fun K5 hK6 => ?_
  refine G.region ?_
  refine GL.run (j := 3) 3 [0, 1, 9, 10, 11] [(0, .int .u64 (p : Int)), (1, .int .u64 (t : Int)), (9, .slice A 2 c), (10, .int .i64 2), (11, .int .i64 0)] (by kernel_rfl) rfl ?_
  refine GL.k rfl hK6 (fun _ _ h => h) ?_
  refine G.block ?_
  refine G.unroll 2 ?_
  refine G.seqK fun K7 hK8 => ?_
  refine G.region ?_
  refine GL.run (j := 1) 1 [0, 1, 9, 10, 11, 12] [(0, .int .u64 (p : Int)), (1, .int .u64 (t : Int)), (9, .slice A 2 c), (10, .int .i64 2), (11, .int .i64 0), (12, .bool true)] (by kernel_rfl) rfl ?_
  refine GL.k rfl hK8 (fun _ _ h => h) ?_
  refine G.seqK fun K9 hK10 => ?_
  refine G.yes rfl ?_
  refine G.skipK hK10 (fun _ _ h => h) ?_
  refine G.seqK fun K11 hK12 => ?_
  refine G.block ?_
  refine G.seqK fun K13 hK14 => ?_
  refine G.region ?_
  refine GL.sem (j := 1) (run_idxRd (P := Try.prog) (k := .i64) (t := 66) (A := A) (len := 2) (cap := c) (j := 0) (by kernel_rfl) rfl (hr.hp H) rfl (by omega)) [0, 1, 9, 10, 11, 13] [(0, .int .u64 (p : Int)), (1, .int .u64 (t : Int)), (9, .slice A 2 c), (10, .int .i64 2), (11, .int .i64 0), (13, .pointer (Option.map (fun x => Addr.add x 0) A))] (by kernel_rfl) (by kernel_rfl) rfl ?_
  refine GL.sem (j := 2) (run_ldRd (P := Try.prog) (ty := 23) (A := A) (j := 0) (v := .int .u64 (a : Int)) (by kernel_rfl) (hr.hp H) rfl) [0, 1, 9, 10, 11, 14] [(0, .int .u64 (p : Int)), (1, .int .u64 (t : Int)), (9, .slice A 2 c), (10, .int .i64 2), (11, .int .i64 0), (14, .int .u64 (a : Int))] (by kernel_rfl) (by kernel_rfl) rfl ?_
  refine GL.run (j := 3) 1 [0, 1, 8, 9, 10, 11] [(0, .int .u64 (p : Int)), (1, .int .u64 (t : Int)), (8, .int .u64 (a : Int)), (9, .slice A 2 c), (10, .int .i64 2), (11, .int .i64 0)] (by kernel_rfl) rfl ?_
  refine GL.k rfl hK14 (fun _ _ h => h) ?_
  refine G.seqK fun K15 hK16 => ?_
  refine G.region ?_
  refine GL.run (j := 1) 1 [0, 1, 9, 10, 11, 15] [(0, .int .u64 (p : Int)), (1, .int .u64 (t : Int)), (9, .slice A 2 c), (10, .int .i64 2), (11, .int .i64 0), (15, .int .u64 (a : Int))] (by kernel_rfl) rfl ?_
  refine GL.call (j := 2) (Right_calls a w) (by kernel_rfl) rfl (fun e_ w17 hR => ?_)
  obtain ⟨rfl, H19⟩ := hR
  have H18 : Hp w [] [] w17 := H.callNil H19
  refine ⟨_, rfl, [0, 1, 9, 10, 11, 16], [(0, .int .u64 (p : Int)), (1, .int .u64 (t : Int)), (9, .slice A 2 c), (10, .int .i64 2), (11, .int .i64 0), (16, .bool (decide ((a : Int) ≤ 4611686018427387904)))], by kernel_rfl, ?_⟩
  refine GL.run (j := 3) 1 [0, 1, 9, 10, 11, 17] [(0, .int .u64 (p : Int)), (1, .int .u64 (t : Int)), (9, .slice A 2 c), (10, .int .i64 2), (11, .int .i64 0), (17, .bool (!(decide ((a : Int) ≤ 4611686018427387904))))] (by kernel_rfl) rfl ?_
  refine GL.k rfl hK16 (fun _ _ h => h) ?_
  cases hb20 : (decide ((a : Int) ≤ 4611686018427387904))
  · skip
    have hb20f := of_decide_eq_false hb20
    refine G.yes rfl ?_
    refine G.seqK fun K21 hK22 => ?_
    refine G.region ?_
    refine GL.run (j := 1) 1 [6] [(6, .bool false)] (by kernel_rfl) rfl ?_
    refine GL.k rfl hK22 (fun _ _ h => h) ?_
    refine G.ret ?_
    intro F_ hF_ hM_
    refine hRet _ _ (bodyPost_1 rfl (RV.tmp rfl) ?_ F_ hF_ hM_)
    have e0 : (false : Bool) = decide (a ≤ 4611686018427387904 ∧ b ≤ 4611686018427387904 ∧ (1 ≤ p ∧ p ≤ 1099511627776) ∧ (1 ≤ t ∧ t ≤ 1000000)) := by
      rw [Bool.eq_iff_iff]
      simp only [decide_eq_true_eq, Bool.true_eq_false, Bool.false_eq_true, true_iff, false_iff]
      omega
    rw [e0]
    exact ⟨rfl, H18.sub (List.nil_sublist _)⟩
  · skip
    have hb20f := of_decide_eq_true hb20
    refine G.no rfl ?_
    refine G.skipK hK12 (fun _ _ h => h) ?_
    refine G.region ?_
    refine GL.run (j := 2) 2 [0, 1, 9, 10, 11] [(0, .int .u64 (p : Int)), (1, .int .u64 (t : Int)), (9, .slice A 2 c), (10, .int .i64 2), (11, .int .i64 1)] (by kernel_rfl) rfl ?_
    refine GL.round rfl ?_
    refine G.seqK fun K23 hK24 => ?_
    refine G.region ?_
    refine GL.run (j := 1) 1 [0, 1, 9, 10, 11, 12] [(0, .int .u64 (p : Int)), (1, .int .u64 (t : Int)), (9, .slice A 2 c), (10, .int .i64 2), (11, .int .i64 1), (12, .bool true)] (by kernel_rfl) rfl ?_
    refine GL.k rfl hK24 (fun _ _ h => h) ?_
    refine G.seqK fun K25 hK26 => ?_
    refine G.yes rfl ?_
    refine G.skipK hK26 (fun _ _ h => h) ?_
    refine G.seqK fun K27 hK28 => ?_
    refine G.block ?_
    refine G.seqK fun K29 hK30 => ?_
    refine G.region ?_
    refine GL.sem (j := 1) (run_idxRd (P := Try.prog) (k := .i64) (t := 66) (A := A) (len := 2) (cap := c) (j := 1) (by kernel_rfl) rfl (hr.hp H18) rfl (by omega)) [0, 1, 9, 10, 11, 13] [(0, .int .u64 (p : Int)), (1, .int .u64 (t : Int)), (9, .slice A 2 c), (10, .int .i64 2), (11, .int .i64 1), (13, .pointer (Option.map (fun x => Addr.add x 1) A))] (by kernel_rfl) (by kernel_rfl) rfl ?_
    refine GL.sem (j := 2) (run_ldRd (P := Try.prog) (ty := 23) (A := A) (j := 1) (v := .int .u64 (b : Int)) (by kernel_rfl) (hr.hp H18) rfl) [0, 1, 9, 10, 11, 14] [(0, .int .u64 (p : Int)), (1, .int .u64 (t : Int)), (9, .slice A 2 c), (10, .int .i64 2), (11, .int .i64 1), (14, .int .u64 (b : Int))] (by kernel_rfl) (by kernel_rfl) rfl ?_
    refine GL.run (j := 3) 1 [0, 1, 8, 9, 10, 11] [(0, .int .u64 (p : Int)), (1, .int .u64 (t : Int)), (8, .int .u64 (b : Int)), (9, .slice A 2 c), (10, .int .i64 2), (11, .int .i64 1)] (by kernel_rfl) rfl ?_
    refine GL.k rfl hK30 (fun _ _ h => h) ?_
    refine G.seqK fun K31 hK32 => ?_
    refine G.region ?_
    refine GL.run (j := 1) 1 [0, 1, 9, 10, 11, 15] [(0, .int .u64 (p : Int)), (1, .int .u64 (t : Int)), (9, .slice A 2 c), (10, .int .i64 2), (11, .int .i64 1), (15, .int .u64 (b : Int))] (by kernel_rfl) rfl ?_
    refine GL.call (j := 2) (Right_calls b w17) (by kernel_rfl) rfl (fun e_ w33 hR => ?_)
    obtain ⟨rfl, H35⟩ := hR
    have H34 : Hp w [] [] w33 := H18.callNil H35
    refine ⟨_, rfl, [0, 1, 9, 10, 11, 16], [(0, .int .u64 (p : Int)), (1, .int .u64 (t : Int)), (9, .slice A 2 c), (10, .int .i64 2), (11, .int .i64 1), (16, .bool (decide ((b : Int) ≤ 4611686018427387904)))], by kernel_rfl, ?_⟩
    refine GL.run (j := 3) 1 [0, 1, 9, 10, 11, 17] [(0, .int .u64 (p : Int)), (1, .int .u64 (t : Int)), (9, .slice A 2 c), (10, .int .i64 2), (11, .int .i64 1), (17, .bool (!(decide ((b : Int) ≤ 4611686018427387904))))] (by kernel_rfl) rfl ?_
    refine GL.k rfl hK32 (fun _ _ h => h) ?_
    cases hb36 : (decide ((b : Int) ≤ 4611686018427387904))
    · skip
      have hb36f := of_decide_eq_false hb36
      refine G.yes rfl ?_
      refine G.seqK fun K37 hK38 => ?_
      refine G.region ?_
      refine GL.run (j := 1) 1 [6] [(6, .bool false)] (by kernel_rfl) rfl ?_
      refine GL.k rfl hK38 (fun _ _ h => h) ?_
      refine G.ret ?_
      intro F_ hF_ hM_
      refine hRet _ _ (bodyPost_1 rfl (RV.tmp rfl) ?_ F_ hF_ hM_)
      have e0 : (false : Bool) = decide (a ≤ 4611686018427387904 ∧ b ≤ 4611686018427387904 ∧ (1 ≤ p ∧ p ≤ 1099511627776) ∧ (1 ≤ t ∧ t ≤ 1000000)) := by
        rw [Bool.eq_iff_iff]
        simp only [decide_eq_true_eq, Bool.true_eq_false, Bool.false_eq_true, true_iff, false_iff]
        omega
      rw [e0]
      exact ⟨rfl, H34.sub (List.nil_sublist _)⟩
    · skip
      have hb36f := of_decide_eq_true hb36
      refine G.no rfl ?_
      refine G.skipK hK28 (fun _ _ h => h) ?_
      refine G.region ?_
      refine GL.run (j := 2) 2 [0, 1, 9, 10, 11] [(0, .int .u64 (p : Int)), (1, .int .u64 (t : Int)), (9, .slice A 2 c), (10, .int .i64 2), (11, .int .i64 2)] (by kernel_rfl) rfl ?_
      refine GL.round rfl ?_
      refine G.seqK fun K39 hK40 => ?_
      refine G.region ?_
      refine GL.run (j := 1) 1 [0, 1, 9, 10, 11, 12] [(0, .int .u64 (p : Int)), (1, .int .u64 (t : Int)), (9, .slice A 2 c), (10, .int .i64 2), (11, .int .i64 2), (12, .bool false)] (by kernel_rfl) rfl ?_
      refine GL.k rfl hK40 (fun _ _ h => h) ?_
      refine G.seqK fun K41 hK42 => ?_
      refine G.no rfl ?_
      refine G.exitK hK4 (fun _ _ h => h) ?_
      refine G.seqK fun K43 hK44 => ?_
      refine G.region ?_
      refine GL.run (j := 1) 1 [1, 19] [(1, .int .u64 (t : Int)), (19, .int .u64 (p : Int))] (by kernel_rfl) rfl ?_
      refine GL.call (j := 2) (PRight_calls p w33) (by kernel_rfl) rfl (fun e_ w45 hR => ?_)
      obtain ⟨rfl, H47⟩ := hR
      have H46 : Hp w [] [] w45 := H34.callNil H47
      refine ⟨_, rfl, [1, 20], [(1, .int .u64 (t : Int)), (20, .bool (decide (1 ≤ p ∧ p ≤ 1099511627776)))], by kernel_rfl, ?_⟩
      refine GL.run (j := 3) 1 [1, 21] [(1, .int .u64 (t : Int)), (21, .bool (decide (1 ≤ p ∧ p ≤ 1099511627776)))] (by kernel_rfl) rfl ?_
      cases hb48 : (decide (1 ≤ p ∧ p ≤ 1099511627776))
      · skip
        have hb48f := of_decide_eq_false hb48
        refine GL.run (j := 7) 4 [6] [(6, .bool false)] (by kernel_rfl) rfl ?_
        refine GL.k rfl hK44 (fun _ _ h => h) ?_
        refine G.ret ?_
        intro F_ hF_ hM_
        refine hRet _ _ (bodyPost_1 rfl (RV.tmp rfl) ?_ F_ hF_ hM_)
        have e0 : (false : Bool) = decide (a ≤ 4611686018427387904 ∧ b ≤ 4611686018427387904 ∧ (1 ≤ p ∧ p ≤ 1099511627776) ∧ (1 ≤ t ∧ t ≤ 1000000)) := by
          rw [Bool.eq_iff_iff]
          simp only [decide_eq_true_eq, Bool.true_eq_false, Bool.false_eq_true, true_iff, false_iff]
          omega
        rw [e0]
        exact ⟨rfl, H46.sub (List.nil_sublist _)⟩
      · skip
        have hb48f := of_decide_eq_true hb48
        refine GL.run (j := 4) 1 [21, 22] [(21, .bool true), (22, .int .u64 (t : Int))] (by kernel_rfl) rfl ?_
        refine GL.call (j := 5) (PThr_calls t w45) (by kernel_rfl) rfl (fun e_ w49 hR => ?_)
        obtain ⟨rfl, H51⟩ := hR
        have H50 : Hp w [] [] w49 := H46.callNil H51
        refine ⟨_, rfl, [21, 23], [(21, .bool true), (23, .bool (decide (1 ≤ t ∧ t ≤ 1000000)))], by kernel_rfl, ?_⟩
        refine GL.run (j := 7) 2 [6] [(6, .bool (decide (1 ≤ t ∧ t ≤ 1000000)))] (by kernel_rfl) rfl ?_
        refine GL.k rfl hK44 (fun _ _ h => h) ?_
        refine G.ret ?_
        intro F_ hF_ hM_
        refine hRet _ _ (bodyPost_1 rfl (RV.tmp rfl) ?_ F_ hF_ hM_)
        have e0 : ((decide (1 ≤ t ∧ t ≤ 1000000)) : Bool) = decide (a ≤ 4611686018427387904 ∧ b ≤ 4611686018427387904 ∧ (1 ≤ p ∧ p ≤ 1099511627776) ∧ (1 ≤ t ∧ t ≤ 1000000)) := by
          rw [Bool.eq_iff_iff]
          simp only [decide_eq_true_eq, Bool.true_eq_false, Bool.false_eq_true, true_iff, false_iff]
          omega
        rw [e0]
        exact ⟨rfl, H50.sub (List.nil_sublist _)⟩
theorem right1_calls (p t a : Nat) (A : Option Addr) (c : Nat) (w : World) (hr : RdS w A [.int .u64 (a : Int)]) : Calls Try.prog 22 #[.int .u64 (p : Int), .int .u64 (t : Int), .slice A 1 c] w fun e w' => e = .returned (.bool (decide (a ≤ 4611686018427387904 ∧ (1 ≤ p ∧ p ≤ 1099511627776) ∧ (1 ≤ t ∧ t ≤ 1000000)))) ∧ Hp w [] [] w' := by
  refine calls_G (args := [.int .u64 (p : Int), .int .u64 (t : Int), .slice A 1 c]) Try.func22 rfl Try.ntmps22 rfl ?_
  intro Q0 hRet hNor hPan
  have H := Hp.start w
  have H : Hp w [] [] w := H
  refine G.seqK fun K1 hK2 => ?_
  refine G.region ?_
  refine GL.run (j := 1) 1 [0, 1, 2] [(0, .int .u64 (p : Int)), (1, .int .u64 (t : Int)), (2, .slice A 1 c)] (by kernel_rfl) rfl ?_
  refine GL.k rfl hK2 (fun _ _ h => h) ?_
  refine G.seqK fun K3 hK4 => ?_
  refine G.seqK fun K5 hK6 => ?_
  refine G.region ?_
  refine GL.run (j := 3) 3 [0, 1, 9, 10, 11] [(0, .int .u64 (p : Int)), (1, .int .u64 (t : Int)), (9, .slice A 1 c), (10, .int .i64 1), (11, .int .i64 0)] (by kernel_rfl) rfl ?_
  refine GL.k rfl hK6 (fun _ _ h => h) ?_
  refine G.block ?_
  refine G.unroll 1 ?_
  refine G.seqK fun K7 hK8 => ?_
  refine G.region ?_
  refine GL.run (j := 1) 1 [0, 1, 9, 10, 11, 12] [(0, .int .u64 (p : Int)), (1, .int .u64 (t : Int)), (9, .slice A 1 c), (10, .int .i64 1), (11, .int .i64 0), (12, .bool true)] (by kernel_rfl) rfl ?_
  refine GL.k rfl hK8 (fun _ _ h => h) ?_
  refine G.seqK fun K9 hK10 => ?_
  refine G.yes rfl ?_
  refine G.skipK hK10 (fun _ _ h => h) ?_
  refine G.seqK fun K11 hK12 => ?_
  refine G.block ?_
  refine G.seqK fun K13 hK14 => ?_
  refine G.region ?_
  refine GL.sem (j := 1) (run_idxRd (P := Try.prog) (k := .i64) (t := 66) (A := A) (len := 1) (cap := c) (j := 0) (by kernel_rfl) rfl (hr.hp H) rfl (by omega)) [0, 1, 9, 10, 11, 13] [(0, .int .u64 (p : Int)), (1, .int .u64 (t : Int)), (9, .slice A 1 c), (10, .int .i64 1), (11, .int .i64 0), (13, .pointer (Option.map (fun x => Addr.add x 0) A))] (by kernel_rfl) (by kernel_rfl) rfl ?_
  refine GL.sem (j := 2) (run_ldRd (P := Try.prog) (ty := 23) (A := A) (j := 0) (v := .int .u64 (a : Int)) (by kernel_rfl) (hr.hp H) rfl) [0, 1, 9, 10, 11, 14] [(0, .int .u64 (p : Int)), (1, .int .u64 (t : Int)), (9, .slice A 1 c), (10, .int .i64 1), (11, .int .i64 0), (14, .int .u64 (a : Int))] (by kernel_rfl) (by kernel_rfl) rfl ?_
  refine GL.run (j := 3) 1 [0, 1, 8, 9, 10, 11] [(0, .int .u64 (p : Int)), (1, .int .u64 (t : Int)), (8, .int .u64 (a : Int)), (9, .slice A 1 c), (10, .int .i64 1), (11, .int .i64 0)] (by kernel_rfl) rfl ?_
  refine GL.k rfl hK14 (fun _ _ h => h) ?_
  refine G.seqK fun K15 hK16 => ?_
  refine G.region ?_
  refine GL.run (j := 1) 1 [0, 1, 9, 10, 11, 15] [(0, .int .u64 (p : Int)), (1, .int .u64 (t : Int)), (9, .slice A 1 c), (10, .int .i64 1), (11, .int .i64 0), (15, .int .u64 (a : Int))] (by kernel_rfl) rfl ?_
  refine GL.call (j := 2) (Right_calls a w) (by kernel_rfl) rfl (fun e_ w17 hR => ?_)
  obtain ⟨rfl, H19⟩ := hR
  have H18 : Hp w [] [] w17 := H.callNil H19
  refine ⟨_, rfl, [0, 1, 9, 10, 11, 16], [(0, .int .u64 (p : Int)), (1, .int .u64 (t : Int)), (9, .slice A 1 c), (10, .int .i64 1), (11, .int .i64 0), (16, .bool (decide ((a : Int) ≤ 4611686018427387904)))], by kernel_rfl, ?_⟩
  refine GL.run (j := 3) 1 [0, 1, 9, 10, 11, 17] [(0, .int .u64 (p : Int)), (1, .int .u64 (t : Int)), (9, .slice A 1 c), (10, .int .i64 1), (11, .int .i64 0), (17, .bool (!(decide ((a : Int) ≤ 4611686018427387904))))] (by kernel_rfl) rfl ?_
  refine GL.k rfl hK16 (fun _ _ h => h) ?_
  cases hb20 : (decide ((a : Int) ≤ 4611686018427387904))
  · skip
    have hb20f := of_decide_eq_false hb20
    refine G.yes rfl ?_
    refine G.seqK fun K21 hK22 => ?_
    refine G.region ?_
    refine GL.run (j := 1) 1 [6] [(6, .bool false)] (by kernel_rfl) rfl ?_
    refine GL.k rfl hK22 (fun _ _ h => h) ?_
    refine G.ret ?_
    intro F_ hF_ hM_
    refine hRet _ _ (bodyPost_1 rfl (RV.tmp rfl) ?_ F_ hF_ hM_)
    have e0 : (false : Bool) = decide (a ≤ 4611686018427387904 ∧ (1 ≤ p ∧ p ≤ 1099511627776) ∧ (1 ≤ t ∧ t ≤ 1000000)) := by
      rw [Bool.eq_iff_iff]
      simp only [decide_eq_true_eq, Bool.true_eq_false, Bool.false_eq_true, true_iff, false_iff]
      omega
    rw [e0]
    exact ⟨rfl, H18.sub (List.nil_sublist _)⟩
  · skip
    have hb20f := of_decide_eq_true hb20
    refine G.no rfl ?_
    refine G.skipK hK12 (fun _ _ h => h) ?_
    refine G.region ?_
    refine GL.run (j := 2) 2 [0, 1, 9, 10, 11] [(0, .int .u64 (p : Int)), (1, .int .u64 (t : Int)), (9, .slice A 1 c), (10, .int .i64 1), (11, .int .i64 1)] (by kernel_rfl) rfl ?_
    refine GL.round rfl ?_
    refine G.seqK fun K23 hK24 => ?_
    refine G.region ?_
    refine GL.run (j := 1) 1 [0, 1, 9, 10, 11, 12] [(0, .int .u64 (p : Int)), (1, .int .u64 (t : Int)), (9, .slice A 1 c), (10, .int .i64 1), (11, .int .i64 1), (12, .bool false)] (by kernel_rfl) rfl ?_
    refine GL.k rfl hK24 (fun _ _ h => h) ?_
    refine G.seqK fun K25 hK26 => ?_
    refine G.no rfl ?_
    refine G.exitK hK4 (fun _ _ h => h) ?_
    refine G.seqK fun K27 hK28 => ?_
    refine G.region ?_
    refine GL.run (j := 1) 1 [1, 19] [(1, .int .u64 (t : Int)), (19, .int .u64 (p : Int))] (by kernel_rfl) rfl ?_
    refine GL.call (j := 2) (PRight_calls p w17) (by kernel_rfl) rfl (fun e_ w29 hR => ?_)
    obtain ⟨rfl, H31⟩ := hR
    have H30 : Hp w [] [] w29 := H18.callNil H31
    refine ⟨_, rfl, [1, 20], [(1, .int .u64 (t : Int)), (20, .bool (decide (1 ≤ p ∧ p ≤ 1099511627776)))], by kernel_rfl, ?_⟩
    refine GL.run (j := 3) 1 [1, 21] [(1, .int .u64 (t : Int)), (21, .bool (decide (1 ≤ p ∧ p ≤ 1099511627776)))] (by kernel_rfl) rfl ?_
    cases hb32 : (decide (1 ≤ p ∧ p ≤ 1099511627776))
    · skip
      have hb32f := of_decide_eq_false hb32
      refine GL.run (j := 7) 4 [6] [(6, .bool false)] (by kernel_rfl) rfl ?_
      refine GL.k rfl hK28 (fun _ _ h => h) ?_
      refine G.ret ?_
      intro F_ hF_ hM_
      refine hRet _ _ (bodyPost_1 rfl (RV.tmp rfl) ?_ F_ hF_ hM_)
      have e0 : (false : Bool) = decide (a ≤ 4611686018427387904 ∧ (1 ≤ p ∧ p ≤ 1099511627776) ∧ (1 ≤ t ∧ t ≤ 1000000)) := by
        rw [Bool.eq_iff_iff]
        simp only [decide_eq_true_eq, Bool.true_eq_false, Bool.false_eq_true, true_iff, false_iff]
        omega
      rw [e0]
      exact ⟨rfl, H30.sub (List.nil_sublist _)⟩
    · skip
      have hb32f := of_decide_eq_true hb32
      refine GL.run (j := 4) 1 [21, 22] [(21, .bool true), (22, .int .u64 (t : Int))] (by kernel_rfl) rfl ?_
      refine GL.call (j := 5) (PThr_calls t w29) (by kernel_rfl) rfl (fun e_ w33 hR => ?_)
      obtain ⟨rfl, H35⟩ := hR
      have H34 : Hp w [] [] w33 := H30.callNil H35
      refine ⟨_, rfl, [21, 23], [(21, .bool true), (23, .bool (decide (1 ≤ t ∧ t ≤ 1000000)))], by kernel_rfl, ?_⟩
      refine GL.run (j := 7) 2 [6] [(6, .bool (decide (1 ≤ t ∧ t ≤ 1000000)))] (by kernel_rfl) rfl ?_
      refine GL.k rfl hK28 (fun _ _ h => h) ?_
      refine G.ret ?_
      intro F_ hF_ hM_
      refine hRet _ _ (bodyPost_1 rfl (RV.tmp rfl) ?_ F_ hF_ hM_)
      have e0 : ((decide (1 ≤ t ∧ t ≤ 1000000)) : Bool) = decide (a ≤ 4611686018427387904 ∧ (1 ≤ p ∧ p ≤ 1099511627776) ∧ (1 ≤ t ∧ t ≤ 1000000)) := by
        rw [Bool.eq_iff_iff]
        simp only [decide_eq_true_eq, Bool.true_eq_false, Bool.false_eq_true, true_iff, false_iff]
        omega
      rw [e0]
      exact ⟨rfl, H34.sub (List.nil_sublist _)⟩
theorem Both_calls (a b p t : Nat) (ha : a < K) (hb : b < K) (hp : p < K) (ht : t < K) (w : World) : Calls Try.prog 23 #[.int .u64 (a : Int), .int .u64 (b : Int), .int .u64 (p : Int), .int .u64 (t : Int)] w fun e w' => e = .returned (.tuple #[wv (a * 100000000 * 1000 % K4), wv (b * p * t % K4)]) ∧ Hp w [] [] w' := by
  refine calls_G (args := [.int .u64 (a : Int), .int .u64 (b : Int), .int .u64 (p : Int), .int .u64 (t : Int)]) Try.func23 rfl Try.ntmps23 rfl ?_
  intro Q0 hRet hNor hPan
  have H := Hp.start w
  have H : Hp w [] [] w := H
  refine G.seqK fun K1 hK2 => ?_
  refine G.region ?_
  obtain ⟨p3, w4, r5, H6⟩ := H.alloc (P := Try.prog) 51 [.int .u64 0, .int .u64 0, .int .u64 0, .int .u64 0] (by kernel_rfl)
  have H6 : Hp w [] [.blk p3 [.int .u64 0, .int .u64 0, .int .u64 0, .int .u64 0] 51] w4 := H6
  refine GL.sem (j := 1) (r5) [0, 1, 2, 3, 8] [(0, .int .u64 (a : Int)), (1, .int .u64 (b : Int)), (2, .int .u64 (p : Int)), (3, .int .u64 (t : Int)), (8, .pointer (some ⟨p3, 0, none⟩))] (by kernel_rfl) (by kernel_rfl) rfl ?_
  obtain ⟨p7, w8, r9, H10⟩ := H6.alloc (P := Try.prog) 51 [.int .u64 0, .int .u64 0, .int .u64 0, .int .u64 0] (by kernel_rfl)
  have H10 : Hp w [] [.blk p3 [.int .u64 0, .int .u64 0, .int .u64 0, .int .u64 0] 51, .blk p7 [.int .u64 0, .int .u64 0, .int .u64 0, .int .u64 0] 51] w8 := H10
  refine GL.sem (j := 2) (r9) [0, 1, 2, 3, 8, 9] [(0, .int .u64 (a : Int)), (1, .int .u64 (b : Int)), (2, .int .u64 (p : Int)), (3, .int .u64 (t : Int)), (8, .pointer (some ⟨p3, 0, none⟩)), (9, .pointer (some ⟨p7, 0, none⟩))] (by kernel_rfl) (by kernel_rfl) rfl ?_
  refine GL.k rfl hK2 (fun _ _ h => h) ?_
  refine G.seqK fun K11 hK12 => ?_
  refine G.region ?_
  refine GL.run (j := 1) 1 [1, 2, 3, 8, 9, 15] [(1, .int .u64 (b : Int)), (2, .int .u64 (p : Int)), (3, .int .u64 (t : Int)), (8, .pointer (some ⟨p3, 0, none⟩)), (9, .pointer (some ⟨p7, 0, none⟩)), (15, .int .u64 (a : Int))] (by kernel_rfl) rfl ?_
  refine GL.call (j := 2) (Product_calls a 100000000 ha (by decide) w8) (by kernel_rfl) rfl (fun e_ w13 hR => ?_)
  obtain ⟨he_, H15⟩ := hR
  obtain ⟨n16, hn17⟩ : ∃ v : Nat, v = a * 100000000 := ⟨_, rfl⟩
  rw [← hn17] at he_
  have n16l : n16 < K4 := by rw [hn17]; exact prod_lt ha (by decide)
  subst he_
  have H14 : Hp w [] [.blk p3 [.int .u64 0, .int .u64 0, .int .u64 0, .int .u64 0] 51, .blk p7 [.int .u64 0, .int .u64 0, .int .u64 0, .int .u64 0] 51] w13 := H10.callNil H15
  refine ⟨_, rfl, [1, 2, 3, 8, 9, 16], [(1, .int .u64 (b : Int)), (2, .int .u64 (p : Int)), (3, .int .u64 (t : Int)), (8, .pointer (some ⟨p3, 0, none⟩)), (9, .pointer (some ⟨p7, 0, none⟩)), (16, wv n16)], by kernel_rfl, ?_⟩
  refine GL.call (j := 3) (Mul_calls n16 1000 n16l (by decide) w13) (by kernel_rfl) rfl (fun e_ w18 hR => ?_)
  obtain ⟨he_, H20⟩ := hR
  obtain ⟨n21, hn22⟩ : ∃ v : Nat, v = n16 * 1000 % K4 := ⟨_, rfl⟩
  rw [← hn22] at he_
  have n21l : n21 < K4 := by rw [hn22]; exact Nat.mod_lt _ (by decide)
  subst he_
  have H19 : Hp w [] [.blk p3 [.int .u64 0, .int .u64 0, .int .u64 0, .int .u64 0] 51, .blk p7 [.int .u64 0, .int .u64 0, .int .u64 0, .int .u64 0] 51] w18 := H14.callNil H20
  refine ⟨_, rfl, [1, 2, 3, 8, 9, 17], [(1, .int .u64 (b : Int)), (2, .int .u64 (p : Int)), (3, .int .u64 (t : Int)), (8, .pointer (some ⟨p3, 0, none⟩)), (9, .pointer (some ⟨p7, 0, none⟩)), (17, .tuple #[wv n21, .bool (decide (K4 ≤ n16 * 1000))])], by kernel_rfl, ?_⟩
  refine GL.run (j := 6) 3 [1, 2, 3, 8, 9, 18, 19] [(1, .int .u64 (b : Int)), (2, .int .u64 (p : Int)), (3, .int .u64 (t : Int)), (8, .pointer (some ⟨p3, 0, none⟩)), (9, .pointer (some ⟨p7, 0, none⟩)), (18, wv n21), (19, .bool (decide (K4 ≤ n16 * 1000)))] (by kernel_rfl) rfl ?_
  obtain ⟨p23, w24, r25, H26⟩ := H19.alloc (P := Try.prog) 51 [.int .u64 0, .int .u64 0, .int .u64 0, .int .u64 0] (by kernel_rfl)
  have H26 : Hp w [] [.blk p3 [.int .u64 0, .int .u64 0, .int .u64 0, .int .u64 0] 51, .blk p7 [.int .u64 0, .int .u64 0, .int .u64 0, .int .u64 0] 51, .blk p23 [.int .u64 0, .int .u64 0, .int .u64 0, .int .u64 0] 51] w24 := H26
  refine GL.sem (j := 7) (r25) [1, 2, 3, 8, 9, 10, 18, 19] [(1, .int .u64 (b : Int)), (2, .int .u64 (p : Int)), (3, .int .u64 (t : Int)), (8, .pointer (some ⟨p3, 0, none⟩)), (9, .pointer (some ⟨p7, 0, none⟩)), (10, .pointer (some ⟨p23, 0, none⟩)), (18, wv n21), (19, .bool (decide (K4 ≤ n16 * 1000)))] (by kernel_rfl) (by kernel_rfl) rfl ?_
  obtain ⟨w27, r28, H29⟩ := H26.stA (P := Try.prog) (o := 0) (vs := [.int .u64 (wd n21 0 : Int), .int .u64 (wd n21 1 : Int), .int .u64 (wd n21 2 : Int), .int .u64 (wd n21 3 : Int)]) (ty := 51) (m := 4) 2 rfl (by kernel_rfl) rfl (by simp) (by simp [Value.oneCell'])
  have H29 : Hp w [] [.blk p3 [.int .u64 0, .int .u64 0, .int .u64 0, .int .u64 0] 51, .blk p7 [.int .u64 0, .int .u64 0, .int .u64 0, .int .u64 0] 51, .blk p23 [.int .u64 (wd n21 0 : Int), .int .u64 (wd n21 1 : Int), .int .u64 (wd n21 2 : Int), .int .u64 (wd n21 3 : Int)] 51] w27 := H29
  refine GL.semU (j := 8) r28 [1, 2, 3, 8, 9, 10, 19] [(1, .int .u64 (b : Int)), (2, .int .u64 (p : Int)), (3, .int .u64 (t : Int)), (8, .pointer (some ⟨p3, 0, none⟩)), (9, .pointer (some ⟨p7, 0, none⟩)), (10, .pointer (some ⟨p23, 0, none⟩)), (19, .bool (decide (K4 ≤ n16 * 1000)))] (by kernel_rfl) rfl rfl rfl ?_
  refine GL.run (j := 9) 1 [1, 2, 3, 8, 9, 10] [(1, .int .u64 (b : Int)), (2, .int .u64 (p : Int)), (3, .int .u64 (t : Int)), (8, .pointer (some ⟨p3, 0, none⟩)), (9, .pointer (some ⟨p7, 0, none⟩)), (10, .pointer (some ⟨p23, 0, none⟩))] (by kernel_rfl) rfl ?_
  refine GL.k rfl hK12 (fun _ _ h => h) ?_
  refine G.seqK fun K30 hK31 => ?_
  refine G.region ?_
  refine GL.run (j := 2) 2 [3, 8, 9, 10, 21, 22] [(3, .int .u64 (t : Int)), (8, .pointer (some ⟨p3, 0, none⟩)), (9, .pointer (some ⟨p7, 0, none⟩)), (10, .pointer (some ⟨p23, 0, none⟩)), (21, .int .u64 (b : Int)), (22, .int .u64 (p : Int))] (by kernel_rfl) rfl ?_
  refine GL.call (j := 3) (Product_calls b p hb hp w27) (by kernel_rfl) rfl (fun e_ w32 hR => ?_)
  obtain ⟨he_, H34⟩ := hR
  obtain ⟨n35, hn36⟩ : ∃ v : Nat, v = b * p := ⟨_, rfl⟩
  rw [← hn36] at he_
  have n35l : n35 < K4 := by rw [hn36]; exact prod_lt hb hp
  subst he_
  have H33 : Hp w [] [.blk p3 [.int .u64 0, .int .u64 0, .int .u64 0, .int .u64 0] 51, .blk p7 [.int .u64 0, .int .u64 0, .int .u64 0, .int .u64 0] 51, .blk p23 [.int .u64 (wd n21 0 : Int), .int .u64 (wd n21 1 : Int), .int .u64 (wd n21 2 : Int), .int .u64 (wd n21 3 : Int)] 51] w32 := H29.callNil H34
  refine ⟨_, rfl, [3, 8, 9, 10, 23], [(3, .int .u64 (t : Int)), (8, .pointer (some ⟨p3, 0, none⟩)), (9, .pointer (some ⟨p7, 0, none⟩)), (10, .pointer (some ⟨p23, 0, none⟩)), (23, wv n35)], by kernel_rfl, ?_⟩
  refine GL.run (j := 4) 1 [8, 9, 10, 23, 24] [(8, .pointer (some ⟨p3, 0, none⟩)), (9, .pointer (some ⟨p7, 0, none⟩)), (10, .pointer (some ⟨p23, 0, none⟩)), (23, wv n35), (24, .int .u64 (t : Int))] (by kernel_rfl) rfl ?_
  refine GL.call (j := 5) (Mul_calls n35 t n35l ht w32) (by kernel_rfl) rfl (fun e_ w37 hR => ?_)
  obtain ⟨he_, H39⟩ := hR
  obtain ⟨n40, hn41⟩ : ∃ v : Nat, v = n35 * t % K4 := ⟨_, rfl⟩
  rw [← hn41] at he_
  have n40l : n40 < K4 := by rw [hn41]; exact Nat.mod_lt _ (by decide)
  subst he_
  have H38 : Hp w [] [.blk p3 [.int .u64 0, .int .u64 0, .int .u64 0, .int .u64 0] 51, .blk p7 [.int .u64 0, .int .u64 0, .int .u64 0, .int .u64 0] 51, .blk p23 [.int .u64 (wd n21 0 : Int), .int .u64 (wd n21 1 : Int), .int .u64 (wd n21 2 : Int), .int .u64 (wd n21 3 : Int)] 51] w37 := H33.callNil H39
  refine ⟨_, rfl, [8, 9, 10, 25], [(8, .pointer (some ⟨p3, 0, none⟩)), (9, .pointer (some ⟨p7, 0, none⟩)), (10, .pointer (some ⟨p23, 0, none⟩)), (25, .tuple #[wv n40, .bool (decide (K4 ≤ n35 * t))])], by kernel_rfl, ?_⟩
  refine GL.run (j := 8) 3 [8, 9, 10, 26, 27] [(8, .pointer (some ⟨p3, 0, none⟩)), (9, .pointer (some ⟨p7, 0, none⟩)), (10, .pointer (some ⟨p23, 0, none⟩)), (26, wv n40), (27, .bool (decide (K4 ≤ n35 * t)))] (by kernel_rfl) rfl ?_
  obtain ⟨p42, w43, r44, H45⟩ := H38.alloc (P := Try.prog) 51 [.int .u64 0, .int .u64 0, .int .u64 0, .int .u64 0] (by kernel_rfl)
  have H45 : Hp w [] [.blk p3 [.int .u64 0, .int .u64 0, .int .u64 0, .int .u64 0] 51, .blk p7 [.int .u64 0, .int .u64 0, .int .u64 0, .int .u64 0] 51, .blk p23 [.int .u64 (wd n21 0 : Int), .int .u64 (wd n21 1 : Int), .int .u64 (wd n21 2 : Int), .int .u64 (wd n21 3 : Int)] 51, .blk p42 [.int .u64 0, .int .u64 0, .int .u64 0, .int .u64 0] 51] w43 := H45
  refine GL.sem (j := 9) (r44) [8, 9, 10, 12, 26, 27] [(8, .pointer (some ⟨p3, 0, none⟩)), (9, .pointer (some ⟨p7, 0, none⟩)), (10, .pointer (some ⟨p23, 0, none⟩)), (12, .pointer (some ⟨p42, 0, none⟩)), (26, wv n40), (27, .bool (decide (K4 ≤ n35 * t)))] (by kernel_rfl) (by kernel_rfl) rfl ?_
  obtain ⟨w46, r47, H48⟩ := H45.stA (P := Try.prog) (o := 0) (vs := [.int .u64 (wd n40 0 : Int), .int .u64 (wd n40 1 : Int), .int .u64 (wd n40 2 : Int), .int .u64 (wd n40 3 : Int)]) (ty := 51) (m := 4) 3 rfl (by kernel_rfl) rfl (by simp) (by simp [Value.oneCell'])
  have H48 : Hp w [] [.blk p3 [.int .u64 0, .int .u64 0, .int .u64 0, .int .u64 0] 51, .blk p7 [.int .u64 0, .int .u64 0, .int .u64 0, .int .u64 0] 51, .blk p23 [.int .u64 (wd n21 0 : Int), .int .u64 (wd n21 1 : Int), .int .u64 (wd n21 2 : Int), .int .u64 (wd n21 3 : Int)] 51, .blk p42 [.int .u64 (wd n40 0 : Int), .int .u64 (wd n40 1 : Int), .int .u64 (wd n40 2 : Int), .int .u64 (wd n40 3 : Int)] 51] w46 := H48
  refine GL.semU (j := 10) r47 [8, 9, 10, 12, 27] [(8, .pointer (some ⟨p3, 0, none⟩)), (9, .pointer (some ⟨p7, 0, none⟩)), (10, .pointer (some ⟨p23, 0, none⟩)), (12, .pointer (some ⟨p42, 0, none⟩)), (27, .bool (decide (K4 ≤ n35 * t)))] (by kernel_rfl) rfl rfl rfl ?_
  refine GL.run (j := 11) 1 [8, 9, 10, 12] [(8, .pointer (some ⟨p3, 0, none⟩)), (9, .pointer (some ⟨p7, 0, none⟩)), (10, .pointer (some ⟨p23, 0, none⟩)), (12, .pointer (some ⟨p42, 0, none⟩))] (by kernel_rfl) rfl ?_
  refine GL.k rfl hK31 (fun _ _ h => h) ?_
  refine G.seqK fun K49 hK50 => ?_
  refine G.heldP (Hp w [] [.blk p23 [.int .u64 (wd n21 0 : Int), .int .u64 (wd n21 1 : Int), .int .u64 (wd n21 2 : Int), .int .u64 (wd n21 3 : Int)] 51, .blk p42 [.int .u64 (wd n40 0 : Int), .int .u64 (wd n40 1 : Int), .int .u64 (wd n40 2 : Int), .int .u64 (wd n40 3 : Int)] 51]) (by kernel_rfl) (by kernel_rfl) (fun c_ a_ d_ v_ w_ h_ => hPan c_ a_ d_ v_ w_ h_) ?_
  have H51 := H48.drew
  generalize ({ w46 with drawn := w46.drawn + 1 } : World) = w52 at H51 ⊢
  have hS53 : Hp w [] [.blk p23 [.int .u64 (wd n21 0 : Int), .int .u64 (wd n21 1 : Int), .int .u64 (wd n21 2 : Int), .int .u64 (wd n21 3 : Int)] 51, .blk p42 [.int .u64 (wd n40 0 : Int), .int .u64 (wd n40 1 : Int), .int .u64 (wd n40 2 : Int), .int .u64 (wd n40 3 : Int)] 51] w52 := H51.sub (List.Sublist.cons _ (List.Sublist.cons _ (List.Sublist.cons_cons _ (List.Sublist.cons_cons _ (List.Sublist.slnil)))))
  refine GP.sem 0 (fun w_ H_ => H_.ldA (o := 0) (ty := 51) (m := 4) (sub := [.int .u64 (wd n21 0 : Int), .int .u64 (wd n21 1 : Int), .int .u64 (wd n21 2 : Int), .int .u64 (wd n21 3 : Int)]) 0 rfl (by kernel_rfl) rfl rfl) [8, 9, 12, 28] [(8, .pointer (some ⟨p3, 0, none⟩)), (9, .pointer (some ⟨p7, 0, none⟩)), (12, .pointer (some ⟨p42, 0, none⟩)), (28, wv n21)] (by kernel_rfl) (by kernel_rfl) (by kernel_rfl) hS53 ?_
  refine GP.sem 1 (fun w_ H_ => H_.ldA (o := 0) (ty := 51) (m := 4) (sub := [.int .u64 (wd n40 0 : Int), .int .u64 (wd n40 1 : Int), .int .u64 (wd n40 2 : Int), .int .u64 (wd n40 3 : Int)]) 1 rfl (by kernel_rfl) rfl rfl) [8, 9, 28, 29] [(8, .pointer (some ⟨p3, 0, none⟩)), (9, .pointer (some ⟨p7, 0, none⟩)), (28, wv n21), (29, wv n40)] (by kernel_rfl) (by kernel_rfl) (by kernel_rfl) hS53 ?_
  obtain ⟨w54, r55, H56⟩ := H51.stA (P := Try.prog) (o := 0) (vs := [.int .u64 (wd n21 0 : Int), .int .u64 (wd n21 1 : Int), .int .u64 (wd n21 2 : Int), .int .u64 (wd n21 3 : Int)]) (ty := 51) (m := 4) 0 rfl (by kernel_rfl) rfl (by simp) (by simp [Value.oneCell'])
  have H56 : Hp w [] [.blk p3 [.int .u64 (wd n21 0 : Int), .int .u64 (wd n21 1 : Int), .int .u64 (wd n21 2 : Int), .int .u64 (wd n21 3 : Int)] 51, .blk p7 [.int .u64 0, .int .u64 0, .int .u64 0, .int .u64 0] 51, .blk p23 [.int .u64 (wd n21 0 : Int), .int .u64 (wd n21 1 : Int), .int .u64 (wd n21 2 : Int), .int .u64 (wd n21 3 : Int)] 51, .blk p42 [.int .u64 (wd n40 0 : Int), .int .u64 (wd n40 1 : Int), .int .u64 (wd n40 2 : Int), .int .u64 (wd n40 3 : Int)] 51] w54 := H56
  have hS57 : Hp w [] [.blk p23 [.int .u64 (wd n21 0 : Int), .int .u64 (wd n21 1 : Int), .int .u64 (wd n21 2 : Int), .int .u64 (wd n21 3 : Int)] 51, .blk p42 [.int .u64 (wd n40 0 : Int), .int .u64 (wd n40 1 : Int), .int .u64 (wd n40 2 : Int), .int .u64 (wd n40 3 : Int)] 51] w54 := H56.sub (List.Sublist.cons _ (List.Sublist.cons _ (List.Sublist.cons_cons _ (List.Sublist.cons_cons _ (List.Sublist.slnil)))))
  refine GP.semU 2 r55 [8, 9, 29] [(8, .pointer (some ⟨p3, 0, none⟩)), (9, .pointer (some ⟨p7, 0, none⟩)), (29, wv n40)] (by kernel_rfl) rfl rfl (by kernel_rfl) hS57 ?_
  obtain ⟨w58, r59, H60⟩ := H56.stA (P := Try.prog) (o := 0) (vs := [.int .u64 (wd n40 0 : Int), .int .u64 (wd n40 1 : Int), .int .u64 (wd n40 2 : Int), .int .u64 (wd n40 3 : Int)]) (ty := 51) (m := 4) 1 rfl (by kernel_rfl) rfl (by simp) (by simp [Value.oneCell'])
  have H60 : Hp w [] [.blk p3 [.int .u64 (wd n21 0 : Int), .int .u64 (wd n21 1 : Int), .int .u64 (wd n21 2 : Int), .int .u64 (wd n21 3 : Int)] 51, .blk p7 [.int .u64 (wd n40 0 : Int), .int .u64 (wd n40 1 : Int), .int .u64 (wd n40 2 : Int), .int .u64 (wd n40 3 : Int)] 51, .blk p23 [.int .u64 (wd n21 0 : Int), .int .u64 (wd n21 1 : Int), .int .u64 (wd n21 2 : Int), .int .u64 (wd n21 3 : Int)] 51, .blk p42 [.int .u64 (wd n40 0 : Int), .int .u64 (wd n40 1 : Int), .int .u64 (wd n40 2 : Int), .int .u64 (wd n40 3 : Int)] 51] w58 := H60
  have hS61 : Hp w [] [.blk p23 [.int .u64 (wd n21 0 : Int), .int .u64 (wd n21 1 : Int), .int .u64 (wd n21 2 : Int), .int .u64 (wd n21 3 : Int)] 51, .blk p42 [.int .u64 (wd n40 0 : Int), .int .u64 (wd n40 1 : Int), .int .u64 (wd n40 2 : Int), .int .u64 (wd n40 3 : Int)] 51] w58 := H60.sub (List.Sublist.cons _ (List.Sublist.cons _ (List.Sublist.cons_cons _ (List.Sublist.cons_cons _ (List.Sublist.slnil)))))
  refine GP.semU 3 r59 [8, 9] [(8, .pointer (some ⟨p3, 0, none⟩)), (9, .pointer (some ⟨p7, 0, none⟩))] (by kernel_rfl) rfl rfl (by kernel_rfl) hS61 ?_
  refine GP.k (by kernel_rfl) hK50 (fun _ _ h => h) ?_
  refine G.ret ?_
  intro F_ hF_ hM_
  refine hRet _ _ (bodyPost_2 rfl (RV.cell rfl (H60.ldA (o := 0) (ty := 51) (m := 4) (sub := [.int .u64 (wd n21 0 : Int), .int .u64 (wd n21 1 : Int), .int .u64 (wd n21 2 : Int), .int .u64 (wd n21 3 : Int)]) 0 rfl (by kernel_rfl) rfl rfl)) (RV.cell rfl (H60.ldA (o := 0) (ty := 51) (m := 4) (sub := [.int .u64 (wd n40 0 : Int), .int .u64 (wd n40 1 : Int), .int .u64 (wd n40 2 : Int), .int .u64 (wd n40 3 : Int)]) 1 rfl (by kernel_rfl) rfl rfl)) ?_ F_ hF_ hM_)
  have e1 : n21 = a * 100000000 * 1000 % K4 := by rw [hn22, hn17]
  have e2 : n40 = b * p * t % K4 := by rw [hn41, hn36]
  rw [← e1, ← e2]
  exact ⟨rfl, H60.sub (List.nil_sublist _)⟩
/-- Collateral a is enough for parts b, by price p and threshold t. -/
def enough (a b p t : Nat) : Bool := decide (a ≤ 4611686018427387904 ∧ b ≤ 4611686018427387904 ∧ (1 ≤ p ∧ p ≤ 1099511627776) ∧ (1 ≤ t ∧ t ≤ 1000000) ∧ b * p * t ≤ a * 100000000 * 1000)
theorem prod3 {b p t : Nat} (hb : b ≤ 4611686018427387904) (hp : p ≤ 1099511627776) (ht : t ≤ 1000000) : b * p * t ≤ 4611686018427387904 * 1099511627776 * 1000000 := Nat.mul_le_mul (Nat.mul_le_mul hb hp) ht
theorem enough_mono {a b p t a' b' p' t' : Nat} (h : enough a b p t = true) (ha : a ≤ a') (ha' : a' ≤ 4611686018427387904) (hb : b' ≤ b) (hp : p' ≤ p) (hp1 : 1 ≤ p') (ht : t' ≤ t) (ht1 : 1 ≤ t') : enough a' b' p' t' = true := by
  have h0 := of_decide_eq_true h
  refine decide_eq_true ⟨ha', by omega, by omega, by omega, ?_⟩
  have h1 : b' * p' * t' ≤ b * p * t := Nat.mul_le_mul (Nat.mul_le_mul hb hp) ht
  omega
theorem Enough_calls (a b p t : Nat) (ha : a < K) (hb : b < K) (hp : p < K) (ht : t < K) (w : World) : Calls Try.prog 8 #[.int .u64 (a : Int), .int .u64 (b : Int), .int .u64 (p : Int), .int .u64 (t : Int)] w fun e w' => e = .returned (.bool (enough a b p t)) ∧ Hp w [] [] w' := by
  have hMX : MX = 4611686018427387904 := rfl
  have hK0 : K = 18446744073709551616 := rfl
  have hK40 : K4 = 115792089237316195423570985008687907853269984665640564039457584007913129639936 := rfl
  refine calls_G (args := [.int .u64 (a : Int), .int .u64 (b : Int), .int .u64 (p : Int), .int .u64 (t : Int)]) Try.func8 rfl Try.ntmps8 rfl ?_
  intro Q0 hRet hNor hPan
  have H := Hp.start w
  have H : Hp w [] [] w := H
  refine G.seqK fun K1 hK2 => ?_
  refine G.region ?_
  refine GL.run (j := 1) 1 [0, 1, 2, 3] [(0, .int .u64 (a : Int)), (1, .int .u64 (b : Int)), (2, .int .u64 (p : Int)), (3, .int .u64 (t : Int))] (by kernel_rfl) rfl ?_
  refine GL.k rfl hK2 (fun _ _ h => h) ?_
  refine G.seqK fun K3 hK4 => ?_
  refine G.seqK fun K5 hK6 => ?_
  refine G.region ?_
  refine GL.run (j := 4) 4 [0, 1, 2, 3, 11, 12, 13, 14] [(0, .int .u64 (a : Int)), (1, .int .u64 (b : Int)), (2, .int .u64 (p : Int)), (3, .int .u64 (t : Int)), (11, .int .u64 (p : Int)), (12, .int .u64 (t : Int)), (13, .int .u64 (a : Int)), (14, .int .u64 (b : Int))] (by kernel_rfl) rfl ?_
  obtain ⟨p7, w8, r9, H10⟩ := H.made (P := Try.prog) (Instr.buildSlice 66 2 #[(0, .int .u64 (a : Int)), (1, .int .u64 (b : Int))]) (fun b_ => .slice (some ⟨b_, 0, none⟩) 2 2) [.int .u64 (a : Int), .int .u64 (b : Int)] 23 (by kernel_rfl)
  have H10 : Hp w [] [.blk p7 [.int .u64 (a : Int), .int .u64 (b : Int)] 23] w8 := H10
  refine GL.sem (j := 5) (r9) [0, 1, 2, 3, 11, 12, 15] [(0, .int .u64 (a : Int)), (1, .int .u64 (b : Int)), (2, .int .u64 (p : Int)), (3, .int .u64 (t : Int)), (11, .int .u64 (p : Int)), (12, .int .u64 (t : Int)), (15, .slice (some ⟨p7, 0, none⟩) 2 2)] (by kernel_rfl) (by kernel_rfl) rfl ?_
  refine GL.call (j := 6) (right2_calls p t a b (some ⟨p7, 0, none⟩) 2 w8 (H10.rdBlk (o := 0) (xs := [.int .u64 (a : Int), .int .u64 (b : Int)]) 0 2 rfl rfl)) (by kernel_rfl) rfl (fun e_ w11 hR => ?_)
  obtain ⟨rfl, H13⟩ := hR
  have H12 : Hp w [] [.blk p7 [.int .u64 (a : Int), .int .u64 (b : Int)] 23] w11 := H10.callNil H13
  refine ⟨_, rfl, [0, 1, 2, 3, 16], [(0, .int .u64 (a : Int)), (1, .int .u64 (b : Int)), (2, .int .u64 (p : Int)), (3, .int .u64 (t : Int)), (16, .bool (decide (a ≤ 4611686018427387904 ∧ b ≤ 4611686018427387904 ∧ (1 ≤ p ∧ p ≤ 1099511627776) ∧ (1 ≤ t ∧ t ≤ 1000000))))], by kernel_rfl, ?_⟩
  refine GL.run (j := 7) 1 [0, 1, 2, 3, 17] [(0, .int .u64 (a : Int)), (1, .int .u64 (b : Int)), (2, .int .u64 (p : Int)), (3, .int .u64 (t : Int)), (17, .bool (!(decide (a ≤ 4611686018427387904 ∧ b ≤ 4611686018427387904 ∧ (1 ≤ p ∧ p ≤ 1099511627776) ∧ (1 ≤ t ∧ t ≤ 1000000)))))] (by kernel_rfl) rfl ?_
  refine GL.k rfl hK6 (fun _ _ h => h) ?_
  cases hb14 : (decide (a ≤ 4611686018427387904 ∧ b ≤ 4611686018427387904 ∧ (1 ≤ p ∧ p ≤ 1099511627776) ∧ (1 ≤ t ∧ t ≤ 1000000)))
  · skip
    have hb14f := of_decide_eq_false hb14
    refine G.yes rfl ?_
    refine G.seqK fun K15 hK16 => ?_
    refine G.region ?_
    refine GL.run (j := 1) 1 [8] [(8, .bool false)] (by kernel_rfl) rfl ?_
    refine GL.k rfl hK16 (fun _ _ h => h) ?_
    refine G.ret ?_
    intro F_ hF_ hM_
    refine hRet _ _ (bodyPost_1 rfl (RV.tmp rfl) ?_ F_ hF_ hM_)
    have e0 : (false : Bool) = enough a b p t := by
      unfold enough
      rw [Bool.eq_iff_iff]
      simp only [decide_eq_true_eq, Bool.true_eq_false, Bool.false_eq_true, true_iff, false_iff, cmp_ge]
      omega
    rw [e0]
    exact ⟨rfl, H12.sub (List.nil_sublist _)⟩
  · skip
    have hb14f := of_decide_eq_true hb14
    refine G.no rfl ?_
    refine G.skipK hK4 (fun _ _ h => h) ?_
    refine G.seqK fun K17 hK18 => ?_
    refine G.region ?_
    refine GL.run (j := 4) 4 [19, 20, 21, 22] [(19, .int .u64 (a : Int)), (20, .int .u64 (b : Int)), (21, .int .u64 (p : Int)), (22, .int .u64 (t : Int))] (by kernel_rfl) rfl ?_
    have hm := prod3 (b := b) (p := p) (t := t) (by omega) (by omega) (by omega)
    refine GL.call (j := 5) (Both_calls a b p t ha hb hp ht w11) (by kernel_rfl) rfl (fun e_ w19 hR => ?_)
    obtain ⟨rfl, H21⟩ := hR
    rw [Nat.mod_eq_of_lt (show a * 100000000 * 1000 < K4 by omega), Nat.mod_eq_of_lt (show b * p * t < K4 by omega)]
    obtain ⟨X, hX⟩ : ∃ v : Nat, v = a * 100000000 * 1000 := ⟨_, rfl⟩
    rw [← hX]
    have Xl : X < K4 := by omega
    obtain ⟨Y, hY⟩ : ∃ v : Nat, v = b * p * t := ⟨_, rfl⟩
    rw [← hY]
    have Yl : Y < K4 := by omega
    have H20 : Hp w [] [.blk p7 [.int .u64 (a : Int), .int .u64 (b : Int)] 23] w19 := H12.callNil H21
    refine ⟨_, rfl, [23], [(23, .tuple #[wv X, wv Y])], by kernel_rfl, ?_⟩
    refine GL.run (j := 8) 3 [24, 25] [(24, wv X), (25, wv Y)] (by kernel_rfl) rfl ?_
    obtain ⟨p22, w23, r24, H25⟩ := H20.alloc (P := Try.prog) 51 [.int .u64 0, .int .u64 0, .int .u64 0, .int .u64 0] (by kernel_rfl)
    have H25 : Hp w [] [.blk p7 [.int .u64 (a : Int), .int .u64 (b : Int)] 23, .blk p22 [.int .u64 0, .int .u64 0, .int .u64 0, .int .u64 0] 51] w23 := H25
    refine GL.sem (j := 9) (r24) [9, 24, 25] [(9, .pointer (some ⟨p22, 0, none⟩)), (24, wv X), (25, wv Y)] (by kernel_rfl) (by kernel_rfl) rfl ?_
    obtain ⟨p26, w27, r28, H29⟩ := H25.alloc (P := Try.prog) 51 [.int .u64 0, .int .u64 0, .int .u64 0, .int .u64 0] (by kernel_rfl)
    have H29 : Hp w [] [.blk p7 [.int .u64 (a : Int), .int .u64 (b : Int)] 23, .blk p22 [.int .u64 0, .int .u64 0, .int .u64 0, .int .u64 0] 51, .blk p26 [.int .u64 0, .int .u64 0, .int .u64 0, .int .u64 0] 51] w27 := H29
    refine GL.sem (j := 10) (r28) [9, 10, 24, 25] [(9, .pointer (some ⟨p22, 0, none⟩)), (10, .pointer (some ⟨p26, 0, none⟩)), (24, wv X), (25, wv Y)] (by kernel_rfl) (by kernel_rfl) rfl ?_
    obtain ⟨w30, r31, H32⟩ := H29.stA (P := Try.prog) (o := 0) (vs := [.int .u64 (wd X 0 : Int), .int .u64 (wd X 1 : Int), .int .u64 (wd X 2 : Int), .int .u64 (wd X 3 : Int)]) (ty := 51) (m := 4) 1 rfl (by kernel_rfl) rfl (by simp) (by simp [Value.oneCell'])
    have H32 : Hp w [] [.blk p7 [.int .u64 (a : Int), .int .u64 (b : Int)] 23, .blk p22 [.int .u64 (wd X 0 : Int), .int .u64 (wd X 1 : Int), .int .u64 (wd X 2 : Int), .int .u64 (wd X 3 : Int)] 51, .blk p26 [.int .u64 0, .int .u64 0, .int .u64 0, .int .u64 0] 51] w30 := H32
    refine GL.semU (j := 11) r31 [9, 10, 25] [(9, .pointer (some ⟨p22, 0, none⟩)), (10, .pointer (some ⟨p26, 0, none⟩)), (25, wv Y)] (by kernel_rfl) rfl rfl rfl ?_
    obtain ⟨w33, r34, H35⟩ := H32.stA (P := Try.prog) (o := 0) (vs := [.int .u64 (wd Y 0 : Int), .int .u64 (wd Y 1 : Int), .int .u64 (wd Y 2 : Int), .int .u64 (wd Y 3 : Int)]) (ty := 51) (m := 4) 2 rfl (by kernel_rfl) rfl (by simp) (by simp [Value.oneCell'])
    have H35 : Hp w [] [.blk p7 [.int .u64 (a : Int), .int .u64 (b : Int)] 23, .blk p22 [.int .u64 (wd X 0 : Int), .int .u64 (wd X 1 : Int), .int .u64 (wd X 2 : Int), .int .u64 (wd X 3 : Int)] 51, .blk p26 [.int .u64 (wd Y 0 : Int), .int .u64 (wd Y 1 : Int), .int .u64 (wd Y 2 : Int), .int .u64 (wd Y 3 : Int)] 51] w33 := H35
    refine GL.semU (j := 12) r34 [9, 10] [(9, .pointer (some ⟨p22, 0, none⟩)), (10, .pointer (some ⟨p26, 0, none⟩))] (by kernel_rfl) rfl rfl rfl ?_
    refine GL.k rfl hK18 (fun _ _ h => h) ?_
    refine G.seqK fun K36 hK37 => ?_
    refine G.region ?_
    refine GL.sem (j := 1) (H35.ldA (o := 0) (ty := 51) (m := 4) (sub := [.int .u64 (wd X 0 : Int), .int .u64 (wd X 1 : Int), .int .u64 (wd X 2 : Int), .int .u64 (wd X 3 : Int)]) 1 rfl (by kernel_rfl) rfl rfl) [10, 26] [(10, .pointer (some ⟨p26, 0, none⟩)), (26, wv X)] (by kernel_rfl) (by kernel_rfl) rfl ?_
    refine GL.sem (j := 2) (H35.ldA (o := 0) (ty := 51) (m := 4) (sub := [.int .u64 (wd Y 0 : Int), .int .u64 (wd Y 1 : Int), .int .u64 (wd Y 2 : Int), .int .u64 (wd Y 3 : Int)]) 2 rfl (by kernel_rfl) rfl rfl) [26, 27] [(26, wv X), (27, wv Y)] (by kernel_rfl) (by kernel_rfl) rfl ?_
    refine GL.call (j := 3) (Cmp_calls X Y Xl Yl w33) (by kernel_rfl) rfl (fun e_ w38 hR => ?_)
    obtain ⟨he_, H40⟩ := hR
    subst he_
    have H39 : Hp w [] [.blk p7 [.int .u64 (a : Int), .int .u64 (b : Int)] 23, .blk p22 [.int .u64 (wd X 0 : Int), .int .u64 (wd X 1 : Int), .int .u64 (wd X 2 : Int), .int .u64 (wd X 3 : Int)] 51, .blk p26 [.int .u64 (wd Y 0 : Int), .int .u64 (wd Y 1 : Int), .int .u64 (wd Y 2 : Int), .int .u64 (wd Y 3 : Int)] 51] w38 := H35.callNil H40
    refine ⟨_, rfl, [28], [(28, .int .i64 (cmpN X Y))], by kernel_rfl, ?_⟩
    refine GL.run (j := 5) 2 [8] [(8, .bool (decide (0 ≤ (cmpN X Y))))] (by kernel_rfl) rfl ?_
    refine GL.k rfl hK37 (fun _ _ h => h) ?_
    refine G.ret ?_
    intro F_ hF_ hM_
    refine hRet _ _ (bodyPost_1 rfl (RV.tmp rfl) ?_ F_ hF_ hM_)
    have e0 : ((decide (0 ≤ (cmpN X Y))) : Bool) = enough a b p t := by
      unfold enough
      rw [Bool.eq_iff_iff]
      simp only [decide_eq_true_eq, Bool.true_eq_false, Bool.false_eq_true, true_iff, false_iff, cmp_ge]
      omega
    rw [e0]
    exact ⟨rfl, H39.sub (List.nil_sublist _)⟩
/-- What parts are worth, how many parts are worth so much: the number, and why there is none. -/
def valV (a p : Nat) (m : Bool) : Nat := if 1 ≤ p ∧ p ≤ 1099511627776 then partV a p 100000000 m else 0
def valE (a p : Nat) (m : Bool) : Nat := if 1 ≤ p ∧ p ≤ 1099511627776 then partE a p 100000000 m else 1
def parV (a p : Nat) : Nat := if 1 ≤ p ∧ p ≤ 1099511627776 then partV a 100000000 p false else 0
def parE (a p : Nat) : Nat := if 1 ≤ p ∧ p ≤ 1099511627776 then partE a 100000000 p false else 1
theorem Value_up_calls (a p : Nat) (ha : a < K) (hp : p < K) (w : World) : Calls Try.prog 10 #[.int .u64 (a : Int), .int .u64 (p : Int), .bool true] w fun e w' => e = .returned (.tuple #[.int .u64 ((valV a p true : Nat) : Int), .int .i64 ((valE a p true : Nat) : Int)]) ∧ Hp w [] [] w' := by
  have hMX : MX = 4611686018427387904 := rfl
  have hK0 : K = 18446744073709551616 := rfl
  have hK40 : K4 = 115792089237316195423570985008687907853269984665640564039457584007913129639936 := rfl
  refine calls_G (args := [.int .u64 (a : Int), .int .u64 (p : Int), .bool true]) Try.func10 rfl Try.ntmps10 rfl ?_
  intro Q0 hRet hNor hPan
  have H := Hp.start w
  have H : Hp w [] [] w := H
  refine G.seqK fun K1 hK2 => ?_
  refine G.region ?_
  refine GL.run (j := 2) 2 [0, 1, 2] [(0, .int .u64 (a : Int)), (1, .int .u64 (p : Int)), (2, .bool true)] (by kernel_rfl) rfl ?_
  refine GL.k rfl hK2 (fun _ _ h => h) ?_
  refine G.seqK fun K3 hK4 => ?_
  refine G.seqK fun K5 hK6 => ?_
  refine G.region ?_
  refine GL.run (j := 1) 1 [0, 1, 2, 8] [(0, .int .u64 (a : Int)), (1, .int .u64 (p : Int)), (2, .bool true), (8, .int .u64 (p : Int))] (by kernel_rfl) rfl ?_
  refine GL.call (j := 2) (PRight_calls p w) (by kernel_rfl) rfl (fun e_ w7 hR => ?_)
  obtain ⟨rfl, H9⟩ := hR
  have H8 : Hp w [] [] w7 := H.callNil H9
  refine ⟨_, rfl, [0, 1, 2, 9], [(0, .int .u64 (a : Int)), (1, .int .u64 (p : Int)), (2, .bool true), (9, .bool (decide (1 ≤ p ∧ p ≤ 1099511627776)))], by kernel_rfl, ?_⟩
  refine GL.run (j := 3) 1 [0, 1, 2, 10] [(0, .int .u64 (a : Int)), (1, .int .u64 (p : Int)), (2, .bool true), (10, .bool (!(decide (1 ≤ p ∧ p ≤ 1099511627776))))] (by kernel_rfl) rfl ?_
  refine GL.k rfl hK6 (fun _ _ h => h) ?_
  cases hb10 : (decide (1 ≤ p ∧ p ≤ 1099511627776))
  · skip
    have hb10f := of_decide_eq_false hb10
    refine G.yes rfl ?_
    refine G.seqK fun K11 hK12 => ?_
    refine G.region ?_
    refine GL.run (j := 2) 2 [6, 7] [(6, .int .u64 0), (7, .int .i64 1)] (by kernel_rfl) rfl ?_
    refine GL.k rfl hK12 (fun _ _ h => h) ?_
    refine G.ret ?_
    intro F_ hF_ hM_
    refine hRet _ _ (bodyPost_2 rfl (RV.tmp rfl) (RV.tmp rfl) ?_ F_ hF_ hM_)
    have c1 : valV a p true = 0 := by unfold valV; rw [if_neg (by omega)]
    have c2 : valE a p true = 1 := by unfold valE; rw [if_neg (by omega)]
    rw [c1, c2]
    exact ⟨rfl, H8.sub (List.nil_sublist _)⟩
  · skip
    have hb10f := of_decide_eq_true hb10
    refine G.no rfl ?_
    refine G.skipK hK4 (fun _ _ h => h) ?_
    refine G.seqK fun K13 hK14 => ?_
    refine G.region ?_
    refine GL.run (j := 3) 3 [11, 12, 13] [(11, .int .u64 (a : Int)), (12, .int .u64 (p : Int)), (13, .bool true)] (by kernel_rfl) rfl ?_
    refine GL.call (j := 4) (Part_up a p 100000000 ha hp (by decide) (by decide) w7) (by kernel_rfl) rfl (fun e_ w15 hR => ?_)
    obtain ⟨rfl, H17⟩ := hR
    have H16 : Hp w [] [] w15 := H8.callNil H17
    refine ⟨_, rfl, [14], [(14, .tuple #[.int .u64 (((partV a p 100000000 true) : Nat) : Int), .int .i64 (((partE a p 100000000 true) : Nat) : Int)])], by kernel_rfl, ?_⟩
    refine GL.run (j := 8) 4 [6, 7] [(6, .int .u64 (((partV a p 100000000 true) : Nat) : Int)), (7, .int .i64 (((partE a p 100000000 true) : Nat) : Int))] (by kernel_rfl) rfl ?_
    refine GL.k rfl hK14 (fun _ _ h => h) ?_
    refine G.ret ?_
    intro F_ hF_ hM_
    refine hRet _ _ (bodyPost_2 rfl (RV.tmp rfl) (RV.tmp rfl) ?_ F_ hF_ hM_)
    have c1 : valV a p true = (partV a p 100000000 true) := by unfold valV; rw [if_pos (by omega)]
    have c2 : valE a p true = (partE a p 100000000 true) := by unfold valE; rw [if_pos (by omega)]
    rw [c1, c2]
    exact ⟨rfl, H16.sub (List.nil_sublist _)⟩
theorem Value_down_calls (a p : Nat) (ha : a < K) (hp : p < K) (w : World) : Calls Try.prog 10 #[.int .u64 (a : Int), .int .u64 (p : Int), .bool false] w fun e w' => e = .returned (.tuple #[.int .u64 ((valV a p false : Nat) : Int), .int .i64 ((valE a p false : Nat) : Int)]) ∧ Hp w [] [] w' := by
  have hMX : MX = 4611686018427387904 := rfl
  have hK0 : K = 18446744073709551616 := rfl
  have hK40 : K4 = 115792089237316195423570985008687907853269984665640564039457584007913129639936 := rfl
  refine calls_G (args := [.int .u64 (a : Int), .int .u64 (p : Int), .bool false]) Try.func10 rfl Try.ntmps10 rfl ?_
  intro Q0 hRet hNor hPan
  have H := Hp.start w
  have H : Hp w [] [] w := H
  refine G.seqK fun K1 hK2 => ?_
  refine G.region ?_
  refine GL.run (j := 2) 2 [0, 1, 2] [(0, .int .u64 (a : Int)), (1, .int .u64 (p : Int)), (2, .bool false)] (by kernel_rfl) rfl ?_
  refine GL.k rfl hK2 (fun _ _ h => h) ?_
  refine G.seqK fun K3 hK4 => ?_
  refine G.seqK fun K5 hK6 => ?_
  refine G.region ?_
  refine GL.run (j := 1) 1 [0, 1, 2, 8] [(0, .int .u64 (a : Int)), (1, .int .u64 (p : Int)), (2, .bool false), (8, .int .u64 (p : Int))] (by kernel_rfl) rfl ?_
  refine GL.call (j := 2) (PRight_calls p w) (by kernel_rfl) rfl (fun e_ w7 hR => ?_)
  obtain ⟨rfl, H9⟩ := hR
  have H8 : Hp w [] [] w7 := H.callNil H9
  refine ⟨_, rfl, [0, 1, 2, 9], [(0, .int .u64 (a : Int)), (1, .int .u64 (p : Int)), (2, .bool false), (9, .bool (decide (1 ≤ p ∧ p ≤ 1099511627776)))], by kernel_rfl, ?_⟩
  refine GL.run (j := 3) 1 [0, 1, 2, 10] [(0, .int .u64 (a : Int)), (1, .int .u64 (p : Int)), (2, .bool false), (10, .bool (!(decide (1 ≤ p ∧ p ≤ 1099511627776))))] (by kernel_rfl) rfl ?_
  refine GL.k rfl hK6 (fun _ _ h => h) ?_
  cases hb10 : (decide (1 ≤ p ∧ p ≤ 1099511627776))
  · skip
    have hb10f := of_decide_eq_false hb10
    refine G.yes rfl ?_
    refine G.seqK fun K11 hK12 => ?_
    refine G.region ?_
    refine GL.run (j := 2) 2 [6, 7] [(6, .int .u64 0), (7, .int .i64 1)] (by kernel_rfl) rfl ?_
    refine GL.k rfl hK12 (fun _ _ h => h) ?_
    refine G.ret ?_
    intro F_ hF_ hM_
    refine hRet _ _ (bodyPost_2 rfl (RV.tmp rfl) (RV.tmp rfl) ?_ F_ hF_ hM_)
    have c1 : valV a p false = 0 := by unfold valV; rw [if_neg (by omega)]
    have c2 : valE a p false = 1 := by unfold valE; rw [if_neg (by omega)]
    rw [c1, c2]
    exact ⟨rfl, H8.sub (List.nil_sublist _)⟩
  · skip
    have hb10f := of_decide_eq_true hb10
    refine G.no rfl ?_
    refine G.skipK hK4 (fun _ _ h => h) ?_
    refine G.seqK fun K13 hK14 => ?_
    refine G.region ?_
    refine GL.run (j := 3) 3 [11, 12, 13] [(11, .int .u64 (a : Int)), (12, .int .u64 (p : Int)), (13, .bool false)] (by kernel_rfl) rfl ?_
    refine GL.call (j := 4) (Part_down a p 100000000 ha hp (by decide) (by decide) w7) (by kernel_rfl) rfl (fun e_ w15 hR => ?_)
    obtain ⟨rfl, H17⟩ := hR
    have H16 : Hp w [] [] w15 := H8.callNil H17
    refine ⟨_, rfl, [14], [(14, .tuple #[.int .u64 (((partV a p 100000000 false) : Nat) : Int), .int .i64 (((partE a p 100000000 false) : Nat) : Int)])], by kernel_rfl, ?_⟩
    refine GL.run (j := 8) 4 [6, 7] [(6, .int .u64 (((partV a p 100000000 false) : Nat) : Int)), (7, .int .i64 (((partE a p 100000000 false) : Nat) : Int))] (by kernel_rfl) rfl ?_
    refine GL.k rfl hK14 (fun _ _ h => h) ?_
    refine G.ret ?_
    intro F_ hF_ hM_
    refine hRet _ _ (bodyPost_2 rfl (RV.tmp rfl) (RV.tmp rfl) ?_ F_ hF_ hM_)
    have c1 : valV a p false = (partV a p 100000000 false) := by unfold valV; rw [if_pos (by omega)]
    have c2 : valE a p false = (partE a p 100000000 false) := by unfold valE; rw [if_pos (by omega)]
    rw [c1, c2]
    exact ⟨rfl, H16.sub (List.nil_sublist _)⟩
theorem Parts_calls (a p : Nat) (ha : a < K) (hp : p < K) (w : World) : Calls Try.prog 11 #[.int .u64 (a : Int), .int .u64 (p : Int)] w fun e w' => e = .returned (.tuple #[.int .u64 ((parV a p : Nat) : Int), .int .i64 ((parE a p : Nat) : Int)]) ∧ Hp w [] [] w' := by
  have hMX : MX = 4611686018427387904 := rfl
  have hK0 : K = 18446744073709551616 := rfl
  have hK40 : K4 = 115792089237316195423570985008687907853269984665640564039457584007913129639936 := rfl
  refine calls_G (args := [.int .u64 (a : Int), .int .u64 (p : Int)]) Try.func11 rfl Try.ntmps11 rfl ?_
  intro Q0 hRet hNor hPan
  have H := Hp.start w
  have H : Hp w [] [] w := H
  refine G.seqK fun K1 hK2 => ?_
  refine G.region ?_
  refine GL.run (j := 2) 2 [0, 1] [(0, .int .u64 (a : Int)), (1, .int .u64 (p : Int))] (by kernel_rfl) rfl ?_
  refine GL.k rfl hK2 (fun _ _ h => h) ?_
  refine G.seqK fun K3 hK4 => ?_
  refine G.seqK fun K5 hK6 => ?_
  refine G.region ?_
  refine GL.run (j := 1) 1 [0, 1, 6] [(0, .int .u64 (a : Int)), (1, .int .u64 (p : Int)), (6, .int .u64 (p : Int))] (by kernel_rfl) rfl ?_
  refine GL.call (j := 2) (PRight_calls p w) (by kernel_rfl) rfl (fun e_ w7 hR => ?_)
  obtain ⟨rfl, H9⟩ := hR
  have H8 : Hp w [] [] w7 := H.callNil H9
  refine ⟨_, rfl, [0, 1, 7], [(0, .int .u64 (a : Int)), (1, .int .u64 (p : Int)), (7, .bool (decide (1 ≤ p ∧ p ≤ 1099511627776)))], by kernel_rfl, ?_⟩
  refine GL.run (j := 3) 1 [0, 1, 8] [(0, .int .u64 (a : Int)), (1, .int .u64 (p : Int)), (8, .bool (!(decide (1 ≤ p ∧ p ≤ 1099511627776))))] (by kernel_rfl) rfl ?_
  refine GL.k rfl hK6 (fun _ _ h => h) ?_
  cases hb10 : (decide (1 ≤ p ∧ p ≤ 1099511627776))
  · skip
    have hb10f := of_decide_eq_false hb10
    refine G.yes rfl ?_
    refine G.seqK fun K11 hK12 => ?_
    refine G.region ?_
    refine GL.run (j := 2) 2 [4, 5] [(4, .int .u64 0), (5, .int .i64 1)] (by kernel_rfl) rfl ?_
    refine GL.k rfl hK12 (fun _ _ h => h) ?_
    refine G.ret ?_
    intro F_ hF_ hM_
    refine hRet _ _ (bodyPost_2 rfl (RV.tmp rfl) (RV.tmp rfl) ?_ F_ hF_ hM_)
    have c1 : parV a p = 0 := by unfold parV; rw [if_neg (by omega)]
    have c2 : parE a p = 1 := by unfold parE; rw [if_neg (by omega)]
    rw [c1, c2]
    exact ⟨rfl, H8.sub (List.nil_sublist _)⟩
  · skip
    have hb10f := of_decide_eq_true hb10
    refine G.no rfl ?_
    refine G.skipK hK4 (fun _ _ h => h) ?_
    refine G.seqK fun K13 hK14 => ?_
    refine G.region ?_
    refine GL.run (j := 2) 2 [9, 10] [(9, .int .u64 (a : Int)), (10, .int .u64 (p : Int))] (by kernel_rfl) rfl ?_
    refine GL.call (j := 3) (Part_down a 100000000 p ha (by decide) hp (by omega) w7) (by kernel_rfl) rfl (fun e_ w15 hR => ?_)
    obtain ⟨rfl, H17⟩ := hR
    have H16 : Hp w [] [] w15 := H8.callNil H17
    refine ⟨_, rfl, [11], [(11, .tuple #[.int .u64 (((partV a 100000000 p false) : Nat) : Int), .int .i64 (((partE a 100000000 p false) : Nat) : Int)])], by kernel_rfl, ?_⟩
    refine GL.run (j := 7) 4 [4, 5] [(4, .int .u64 (((partV a 100000000 p false) : Nat) : Int)), (5, .int .i64 (((partE a 100000000 p false) : Nat) : Int))] (by kernel_rfl) rfl ?_
    refine GL.k rfl hK14 (fun _ _ h => h) ?_
    refine G.ret ?_
    intro F_ hF_ hM_
    refine hRet _ _ (bodyPost_2 rfl (RV.tmp rfl) (RV.tmp rfl) ?_ F_ hF_ hM_)
    have c1 : parV a p = (partV a 100000000 p false) := by unfold parV; rw [if_pos (by omega)]
    have c2 : parE a p = (partE a 100000000 p false) := by unfold parE; rw [if_pos (by omega)]
    rw [c1, c2]
    exact ⟨rfl, H16.sub (List.nil_sublist _)⟩
end Go.Proofs.Ytfhjoojifjmnlaa
