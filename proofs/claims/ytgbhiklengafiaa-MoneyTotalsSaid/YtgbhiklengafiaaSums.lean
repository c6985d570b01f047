/- Sums and differences of any amounts are told, or why not: the walk. -/
import Derived.Test.YtgbhiklengafiaaLives
namespace Go.Proofs.Ytgbhiklengafiaa
open Go.RowKit
def AAddE (a b : Nat) : Nat := if MX < a ∨ MX < b then 1 else if MX < a + b then 4 else 0
def AAddV (a b : Nat) : Nat := if MX < a ∨ MX < b then 0 else if MX < a + b then 0 else a + b
def ASubE (a b : Nat) : Nat := if MX < a ∨ MX < b then 1 else if a < b then 16 else 0
def ASubV (a b : Nat) : Nat := if MX < a ∨ MX < b then 0 else if a < b then 0 else a - b
theorem AAdd_cases (a b : Nat) : ((MX < a ∨ MX < b) ∧ AAddE a b = 1 ∧ AAddV a b = 0) ∨ (¬ (MX < a ∨ MX < b) ∧ MX < a + b ∧ AAddE a b = 4 ∧ AAddV a b = 0) ∨ (¬ (MX < a ∨ MX < b) ∧ ¬ MX < a + b ∧ AAddE a b = 0 ∧ AAddV a b = a + b) := by
  unfold AAddE AAddV
  repeat' split
  all_goals omega
theorem ASub_cases (a b : Nat) : ((MX < a ∨ MX < b) ∧ ASubE a b = 1 ∧ ASubV a b = 0) ∨ (¬ (MX < a ∨ MX < b) ∧ a < b ∧ ASubE a b = 16 ∧ ASubV a b = 0) ∨ (¬ (MX < a ∨ MX < b) ∧ ¬ a < b ∧ ASubE a b = 0 ∧ ASubV a b = a - b) := by
  unfold ASubE ASubV
  repeat' split
  all_goals omega
theorem AAdd_calls (a b : Nat) (ha : a < K) (hb : b < K) (w : World) : Calls Try.prog 15 #[.int .u64 (a : Int), .int .u64 (b : Int)] w fun e w' => e = .returned (.tuple #[.int .u64 ((AAddV a b : Nat) : Int), .int .i64 ((AAddE a b : Nat) : Int)]) ∧ Hp w [] [] w' := by
  have hMX : MX = 4611686018427387904 := rfl
  have hK0 : K = 18446744073709551616 := rfl
  refine calls_G (args := [.int .u64 (a : Int), .int .u64 (b : Int)]) Try.func15 rfl Try.ntmps15 rfl ?_
  intro Q0 hRet hNor hPan
  have H := Hp.start w
  have H : Hp w [] [] w := H
  refine G.seqK fun K1 hK2 => ?_
  refine G.region ?_
  refine GL.run (j := 2) 2 [0, 1] [(0, .int .u64 (a : Int)), (1, .int .u64 (b : Int))] (by kernel_rfl) rfl ?_
  refine GL.k rfl hK2 (fun _ _ h => h) ?_
  refine G.seqK fun K3 hK4 => ?_
  refine G.block ?_
  refine G.seqK fun K5 hK6 => ?_
  refine G.region ?_
  refine GL.run (j := 1) 1 [0, 1, 7] [(0, .int .u64 (a : Int)), (1, .int .u64 (b : Int)), (7, .int .u64 (a : Int))] (by kernel_rfl) rfl ?_
  refine GL.call (j := 2) (Right_calls a w) (by kernel_rfl) rfl (fun e_ w7 hR => ?_)
  obtain ⟨rfl, H9⟩ := hR
  have H8 : Hp w [] [] w7 := H.callNil H9
  refine ⟨_, rfl, [0, 1, 8], [(0, .int .u64 (a : Int)), (1, .int .u64 (b : Int)), (8, .bool (decide ((a : Int) ≤ 4611686018427387904)))], by kernel_rfl, ?_⟩
  refine GL.run (j := 4) 2 [0, 1, 10] [(0, .int .u64 (a : Int)), (1, .int .u64 (b : Int)), (10, .bool (!(decide ((a : Int) ≤ 4611686018427387904))))] (by kernel_rfl) rfl ?_
  cases hb10 : (decide ((a : Int) ≤ 4611686018427387904))
  · skip
    have hb10f := of_decide_eq_false hb10
    refine GL.run (j := 9) 5 [0, 1, 6] [(0, .int .u64 (a : Int)), (1, .int .u64 (b : Int)), (6, .bool true)] (by kernel_rfl) rfl ?_
    refine GL.k rfl hK6 (fun _ _ h => h) ?_
    refine G.yes rfl ?_
    refine G.seqK fun K11 hK12 => ?_
    refine G.region ?_
    refine GL.run (j := 2) 2 [4, 5] [(4, .int .u64 0), (5, .int .i64 1)] (by kernel_rfl) rfl ?_
    refine GL.k rfl hK12 (fun _ _ h => h) ?_
    refine G.ret ?_
    intro F_ hF_ hM_
    refine hRet _ _ (bodyPost_2 rfl (RV.tmp rfl) (RV.tmp rfl) ?_ F_ hF_ hM_)
    have eVE : AAddV a b = 0 ∧ AAddE a b = 1 := by
      unfold AAddV AAddE
      simp only [MX] at *
      constructor <;> repeat' split
      all_goals omega
    rw [eVE.1, eVE.2]
    exact ⟨rfl, H8.sub (List.nil_sublist _)⟩
  · skip
    have hb10f := of_decide_eq_true hb10
    refine GL.run (j := 5) 1 [0, 1, 10, 11] [(0, .int .u64 (a : Int)), (1, .int .u64 (b : Int)), (10, .bool false), (11, .int .u64 (b : Int))] (by kernel_rfl) rfl ?_
    refine GL.call (j := 6) (Right_calls b w7) (by kernel_rfl) rfl (fun e_ w13 hR => ?_)
    obtain ⟨rfl, H15⟩ := hR
    have H14 : Hp w [] [] w13 := H8.callNil H15
    refine ⟨_, rfl, [0, 1, 10, 12], [(0, .int .u64 (a : Int)), (1, .int .u64 (b : Int)), (10, .bool false), (12, .bool (decide ((b : Int) ≤ 4611686018427387904)))], by kernel_rfl, ?_⟩
    refine GL.run (j := 9) 3 [0, 1, 6] [(0, .int .u64 (a : Int)), (1, .int .u64 (b : Int)), (6, .bool (!(decide ((b : Int) ≤ 4611686018427387904))))] (by kernel_rfl) rfl ?_
    refine GL.k rfl hK6 (fun _ _ h => h) ?_
    cases hb16 : (decide ((b : Int) ≤ 4611686018427387904))
    · skip
      have hb16f := of_decide_eq_false hb16
      refine G.yes rfl ?_
      refine G.seqK fun K17 hK18 => ?_
      refine G.region ?_
      refine GL.run (j := 2) 2 [4, 5] [(4, .int .u64 0), (5, .int .i64 1)] (by kernel_rfl) rfl ?_
      refine GL.k rfl hK18 (fun _ _ h => h) ?_
      refine G.ret ?_
      intro F_ hF_ hM_
      refine hRet _ _ (bodyPost_2 rfl (RV.tmp rfl) (RV.tmp rfl) ?_ F_ hF_ hM_)
      have eVE : AAddV a b = 0 ∧ AAddE a b = 1 := by
        unfold AAddV AAddE
        simp only [MX] at *
        constructor <;> repeat' split
        all_goals omega
      rw [eVE.1, eVE.2]
      exact ⟨rfl, H14.sub (List.nil_sublist _)⟩
    · skip
      have hb16f := of_decide_eq_true hb16
      refine G.no rfl ?_
      refine G.seqK fun K19 hK20 => ?_
      refine G.region ?_
      refine GL.run (j := 3) 3 [0, 1, 18] [(0, .int .u64 (a : Int)), (1, .int .u64 (b : Int)), (18, .int .u64 (IntKind.u64.wrap ((a : Int) + (b : Int))))] (by kernel_rfl) rfl ?_
      have e21 : (IntKind.u64.wrap ((a : Int) + (b : Int))) = ((a + b : Nat) : Int) := n_add' (a := a) (b := b) (by omega)
      refine GL.eq (M' := [(0, .int .u64 (a : Int)), (1, .int .u64 (b : Int)), (18, .int .u64 ((a + b : Nat) : Int))]) (by rw [e21]) ?_
      clear e21
      refine GL.call (j := 4) (Right_calls (a + b) w13) (by kernel_rfl) rfl (fun e_ w22 hR => ?_)
      obtain ⟨rfl, H24⟩ := hR
      have H23 : Hp w [] [] w22 := H14.callNil H24
      refine ⟨_, rfl, [0, 1, 19], [(0, .int .u64 (a : Int)), (1, .int .u64 (b : Int)), (19, .bool (decide ((a + b : Int) ≤ 4611686018427387904)))], by kernel_rfl, ?_⟩
      refine GL.run (j := 6) 2 [0, 1, 15] [(0, .int .u64 (a : Int)), (1, .int .u64 (b : Int)), (15, .bool (!(decide ((a + b : Int) ≤ 4611686018427387904))))] (by kernel_rfl) rfl ?_
      refine GL.k rfl hK20 (fun _ _ h => h) ?_
      cases hb25 : (decide ((a + b : Int) ≤ 4611686018427387904))
      · skip
        have hb25f := of_decide_eq_false hb25
        refine G.yes rfl ?_
        refine G.seqK fun K26 hK27 => ?_
        refine G.region ?_
        refine GL.run (j := 2) 2 [4, 5] [(4, .int .u64 0), (5, .int .i64 4)] (by kernel_rfl) rfl ?_
        refine GL.k rfl hK27 (fun _ _ h => h) ?_
        refine G.ret ?_
        intro F_ hF_ hM_
        refine hRet _ _ (bodyPost_2 rfl (RV.tmp rfl) (RV.tmp rfl) ?_ F_ hF_ hM_)
        have eVE : AAddV a b = 0 ∧ AAddE a b = 4 := by
          unfold AAddV AAddE
          simp only [MX] at *
          constructor <;> repeat' split
          all_goals omega
        rw [eVE.1, eVE.2]
        exact ⟨rfl, H23.sub (List.nil_sublist _)⟩
      · skip
        have hb25f := of_decide_eq_true hb25
        refine G.no rfl ?_
        refine G.skipK hK4 (fun _ _ h => h) ?_
        refine G.seqK fun K28 hK29 => ?_
        refine G.region ?_
        refine GL.run (j := 5) 5 [4, 5] [(4, .int .u64 (IntKind.u64.wrap ((a : Int) + (b : Int)))), (5, .int .i64 0)] (by kernel_rfl) rfl ?_
        have e30 : (IntKind.u64.wrap ((a : Int) + (b : Int))) = ((a + b : Nat) : Int) := n_add' (a := a) (b := b) (by omega)
        refine GL.eq (M' := [(4, .int .u64 ((a + b : Nat) : Int)), (5, .int .i64 0)]) (by rw [e30]) ?_
        clear e30
        refine GL.k rfl hK29 (fun _ _ h => h) ?_
        refine G.ret ?_
        intro F_ hF_ hM_
        refine hRet _ _ (bodyPost_2 rfl (RV.tmp rfl) (RV.tmp rfl) ?_ F_ hF_ hM_)
        have eVE : AAddV a b = a + b ∧ AAddE a b = 0 := by
          unfold AAddV AAddE
          simp only [MX] at *
          constructor <;> repeat' split
          all_goals omega
        rw [eVE.1, eVE.2]
        exact ⟨rfl, H23.sub (List.nil_sublist _)⟩
theorem ASub_calls (a b : Nat) (ha : a < K) (hb : b < K) (w : World) : Calls Try.prog 16 #[.int .u64 (a : Int), .int .u64 (b : Int)] w fun e w' => e = .returned (.tuple #[.int .u64 ((ASubV a b : Nat) : Int), .int .i64 ((ASubE a b : Nat) : Int)]) ∧ Hp w [] [] w' := by
  have hMX : MX = 4611686018427387904 := rfl
  have hK0 : K = 18446744073709551616 := rfl
  refine calls_G (args := [.int .u64 (a : Int), .int .u64 (b : Int)]) Try.func16 rfl Try.ntmps16 rfl ?_
  intro Q0 hRet hNor hPan
  have H := Hp.start w
  have H : Hp w [] [] w := H
  refine G.seqK fun K1 hK2 => ?_
  refine G.region ?_
  refine GL.run (j := 2) 2 [0, 1] [(0, .int .u64 (a : Int)), (1, .int .u64 (b : Int))] (by kernel_rfl) rfl ?_
  refine GL.k rfl hK2 (fun _ _ h => h) ?_
  refine G.seqK fun K3 hK4 => ?_
  refine G.block ?_
  refine G.seqK fun K5 hK6 => ?_
  refine G.region ?_
  refine GL.run (j := 1) 1 [0, 1, 7] [(0, .int .u64 (a : Int)), (1, .int .u64 (b : Int)), (7, .int .u64 (a : Int))] (by kernel_rfl) rfl ?_
  refine GL.call (j := 2) (Right_calls a w) (by kernel_rfl) rfl (fun e_ w7 hR => ?_)
  obtain ⟨rfl, H9⟩ := hR
  have H8 : Hp w [] [] w7 := H.callNil H9
  refine ⟨_, rfl, [0, 1, 8], [(0, .int .u64 (a : Int)), (1, .int .u64 (b : Int)), (8, .bool (decide ((a : Int) ≤ 4611686018427387904)))], by kernel_rfl, ?_⟩
  refine GL.run (j := 4) 2 [0, 1, 10] [(0, .int .u64 (a : Int)), (1, .int .u64 (b : Int)), (10, .bool (!(decide ((a : Int) ≤ 4611686018427387904))))] (by kernel_rfl) rfl ?_
  cases hb10 : (decide ((a : Int) ≤ 4611686018427387904))
  · skip
    have hb10f := of_decide_eq_false hb10
    refine GL.run (j := 9) 5 [0, 1, 6] [(0, .int .u64 (a : Int)), (1, .int .u64 (b : Int)), (6, .bool true)] (by kernel_rfl) rfl ?_
    refine GL.k rfl hK6 (fun _ _ h => h) ?_
    refine G.yes rfl ?_
    refine G.seqK fun K11 hK12 => ?_
    refine G.region ?_
    refine GL.run (j := 2) 2 [4, 5] [(4, .int .u64 0), (5, .int .i64 1)] (by kernel_rfl) rfl ?_
    refine GL.k rfl hK12 (fun _ _ h => h) ?_
    refine G.ret ?_
    intro F_ hF_ hM_
    refine hRet _ _ (bodyPost_2 rfl (RV.tmp rfl) (RV.tmp rfl) ?_ F_ hF_ hM_)
    have eVE : ASubV a b = 0 ∧ ASubE a b = 1 := by
      unfold ASubV ASubE
      simp only [MX] at *
      constructor <;> repeat' split
      all_goals omega
    rw [eVE.1, eVE.2]
    exact ⟨rfl, H8.sub (List.nil_sublist _)⟩
  · skip
    have hb10f := of_decide_eq_true hb10
    refine GL.run (j := 5) 1 [0, 1, 10, 11] [(0, .int .u64 (a : Int)), (1, .int .u64 (b : Int)), (10, .bool false), (11, .int .u64 (b : Int))] (by kernel_rfl) rfl ?_
    refine GL.call (j := 6) (Right_calls b w7) (by kernel_rfl) rfl (fun e_ w13 hR => ?_)
    obtain ⟨rfl, H15⟩ := hR
    have H14 : Hp w [] [] w13 := H8.callNil H15
    refine ⟨_, rfl, [0, 1, 10, 12], [(0, .int .u64 (a : Int)), (1, .int .u64 (b : Int)), (10, .bool false), (12, .bool (decide ((b : Int) ≤ 4611686018427387904)))], by kernel_rfl, ?_⟩
    refine GL.run (j := 9) 3 [0, 1, 6] [(0, .int .u64 (a : Int)), (1, .int .u64 (b : Int)), (6, .bool (!(decide ((b : Int) ≤ 4611686018427387904))))] (by kernel_rfl) rfl ?_
    refine GL.k rfl hK6 (fun _ _ h => h) ?_
    cases hb16 : (decide ((b : Int) ≤ 4611686018427387904))
    · skip
      have hb16f := of_decide_eq_false hb16
      refine G.yes rfl ?_
      refine G.seqK fun K17 hK18 => ?_
      refine G.region ?_
      refine GL.run (j := 2) 2 [4, 5] [(4, .int .u64 0), (5, .int .i64 1)] (by kernel_rfl) rfl ?_
      refine GL.k rfl hK18 (fun _ _ h => h) ?_
      refine G.ret ?_
      intro F_ hF_ hM_
      refine hRet _ _ (bodyPost_2 rfl (RV.tmp rfl) (RV.tmp rfl) ?_ F_ hF_ hM_)
      have eVE : ASubV a b = 0 ∧ ASubE a b = 1 := by
        unfold ASubV ASubE
        simp only [MX] at *
        constructor <;> repeat' split
        all_goals omega
      rw [eVE.1, eVE.2]
      exact ⟨rfl, H14.sub (List.nil_sublist _)⟩
    · skip
      have hb16f := of_decide_eq_true hb16
      refine G.no rfl ?_
      refine G.seqK fun K19 hK20 => ?_
      refine G.region ?_
      refine GL.run (j := 4) 4 [0, 1, 15] [(0, .int .u64 (a : Int)), (1, .int .u64 (b : Int)), (15, .bool (decide ((a : Int) < (b : Int))))] (by kernel_rfl) rfl ?_
      refine GL.k rfl hK20 (fun _ _ h => h) ?_
      cases hb21 : (decide ((a : Int) < (b : Int)))
      · skip
        have hb21f := of_decide_eq_false hb21
        refine G.no rfl ?_
        refine G.skipK hK4 (fun _ _ h => h) ?_
        refine G.seqK fun K22 hK23 => ?_
        refine G.region ?_
        refine GL.run (j := 5) 5 [4, 5] [(4, .int .u64 (IntKind.u64.wrap ((a : Int) - (b : Int)))), (5, .int .i64 0)] (by kernel_rfl) rfl ?_
        have e24 : (IntKind.u64.wrap ((a : Int) - (b : Int))) = ((a - b : Nat) : Int) := n_sub (a := a) (b := b) (by omega) (by omega)
        refine GL.eq (M' := [(4, .int .u64 ((a - b : Nat) : Int)), (5, .int .i64 0)]) (by rw [e24]) ?_
        clear e24
        refine GL.k rfl hK23 (fun _ _ h => h) ?_
        refine G.ret ?_
        intro F_ hF_ hM_
        refine hRet _ _ (bodyPost_2 rfl (RV.tmp rfl) (RV.tmp rfl) ?_ F_ hF_ hM_)
        have eVE : ASubV a b = a - b ∧ ASubE a b = 0 := by
          unfold ASubV ASubE
          simp only [MX] at *
          constructor <;> repeat' split
          all_goals omega
        rw [eVE.1, eVE.2]
        exact ⟨rfl, H14.sub (List.nil_sublist _)⟩
      · skip
        have hb21f := of_decide_eq_true hb21
        refine G.yes rfl ?_
        refine G.seqK fun K25 hK26 => ?_
        refine G.region ?_
        refine GL.run (j := 2) 2 [4, 5] [(4, .int .u64 0), (5, .int .i64 16)] (by kernel_rfl) rfl ?_
        refine GL.k rfl hK26 (fun _ _ h => h) ?_
        refine G.ret ?_
        intro F_ hF_ hM_
        refine hRet _ _ (bodyPost_2 rfl (RV.tmp rfl) (RV.tmp rfl) ?_ F_ hF_ hM_)
        have eVE : ASubV a b = 0 ∧ ASubE a b = 16 := by
          unfold ASubV ASubE
          simp only [MX] at *
          constructor <;> repeat' split
          all_goals omega
        rw [eVE.1, eVE.2]
        exact ⟨rfl, H14.sub (List.nil_sublist _)⟩
theorem MoneySums_calls (a b : Nat) (ha : a < K) (hb : b < K) (w : World) : Calls Try.prog 5 #[.int .u64 (a : Int), .int .u64 (b : Int)] w fun e w' => e = .returned (.bool true) ∧ Hp w [] [] w' := by
  have hMX : MX = 4611686018427387904 := rfl
  have hK0 : K = 18446744073709551616 := rfl
  have R := AAdd_cases a b
  have L := ASub_cases a b
  refine calls_G (args := [.int .u64 (a : Int), .int .u64 (b : Int)]) Try.func5 rfl Try.ntmps5 rfl ?_
  intro Q0 hRet hNor hPan
  have H := Hp.start w
  have H : Hp w [] [] w := H
  refine G.seqK fun K1 hK2 => ?_
  refine G.region ?_
  refine GL.run (j := 1) 1 [0, 1] [(0, .int .u64 (a : Int)), (1, .int .u64 (b : Int))] (by kernel_rfl) rfl ?_
  refine GL.k rfl hK2 (fun _ _ h => h) ?_
  refine G.seqK fun K3 hK4 => ?_
  refine G.seqK fun K5 hK6 => ?_
  refine G.region ?_
  refine GL.call (j := 1) (lives_calls w) (by kernel_rfl) rfl (fun e_ w7 hR => ?_)
  obtain ⟨rfl, H9⟩ := hR
  have H8 : Hp w [] [] w7 := H.callNil H9
  refine ⟨_, rfl, [0, 1, 9], [(0, .int .u64 (a : Int)), (1, .int .u64 (b : Int)), (9, .bool true)], by kernel_rfl, ?_⟩
  refine GL.run (j := 2) 1 [0, 1, 10] [(0, .int .u64 (a : Int)), (1, .int .u64 (b : Int)), (10, .bool false)] (by kernel_rfl) rfl ?_
  refine GL.k rfl hK6 (fun _ _ h => h) ?_
  refine G.no rfl ?_
  refine G.skipK hK4 (fun _ _ h => h) ?_
  refine G.seqK fun K10 hK11 => ?_
  refine G.region ?_
  refine GL.run (j := 2) 2 [0, 1, 12, 13] [(0, .int .u64 (a : Int)), (1, .int .u64 (b : Int)), (12, .int .u64 (a : Int)), (13, .int .u64 (b : Int))] (by kernel_rfl) rfl ?_
  refine GL.call (j := 3) (AAdd_calls a b ha hb w7) (by kernel_rfl) rfl (fun e_ w12 hR => ?_)
  obtain ⟨rfl, H14⟩ := hR
  have H13 : Hp w [] [] w12 := H8.callNil H14
  refine ⟨_, rfl, [0, 1, 14], [(0, .int .u64 (a : Int)), (1, .int .u64 (b : Int)), (14, .tuple #[.int .u64 (((AAddV a b) : Nat) : Int), .int .i64 (((AAddE a b) : Nat) : Int)])], by kernel_rfl, ?_⟩
  refine GL.run (j := 8) 5 [0, 1, 5, 6] [(0, .int .u64 (a : Int)), (1, .int .u64 (b : Int)), (5, .int .u64 (((AAddV a b) : Nat) : Int)), (6, .int .i64 (((AAddE a b) : Nat) : Int))] (by kernel_rfl) rfl ?_
  refine GL.k rfl hK11 (fun _ _ h => h) ?_
  refine G.seqK fun K15 hK16 => ?_
  refine G.region ?_
  refine GL.run (j := 2) 2 [0, 1, 5, 6, 18, 19] [(0, .int .u64 (a : Int)), (1, .int .u64 (b : Int)), (5, .int .u64 (((AAddV a b) : Nat) : Int)), (6, .int .i64 (((AAddE a b) : Nat) : Int)), (18, .int .u64 (a : Int)), (19, .int .u64 (b : Int))] (by kernel_rfl) rfl ?_
  refine GL.call (j := 3) (ASub_calls a b ha hb w12) (by kernel_rfl) rfl (fun e_ w17 hR => ?_)
  obtain ⟨rfl, H19⟩ := hR
  have H18 : Hp w [] [] w17 := H13.callNil H19
  refine ⟨_, rfl, [0, 1, 5, 6, 20], [(0, .int .u64 (a : Int)), (1, .int .u64 (b : Int)), (5, .int .u64 (((AAddV a b) : Nat) : Int)), (6, .int .i64 (((AAddE a b) : Nat) : Int)), (20, .tuple #[.int .u64 (((ASubV a b) : Nat) : Int), .int .i64 (((ASubE a b) : Nat) : Int)])], by kernel_rfl, ?_⟩
  refine GL.run (j := 8) 5 [0, 1, 5, 6, 7, 8] [(0, .int .u64 (a : Int)), (1, .int .u64 (b : Int)), (5, .int .u64 (((AAddV a b) : Nat) : Int)), (6, .int .i64 (((AAddE a b) : Nat) : Int)), (7, .int .u64 (((ASubV a b) : Nat) : Int)), (8, .int .i64 (((ASubE a b) : Nat) : Int))] (by kernel_rfl) rfl ?_
  refine GL.k rfl hK16 (fun _ _ h => h) ?_
  refine G.seqK fun K20 hK21 => ?_
  refine G.block ?_
  refine G.seqK fun K22 hK23 => ?_
  refine G.region ?_
  refine GL.run (j := 3) 3 [0, 1, 5, 6, 7, 8, 35] [(0, .int .u64 (a : Int)), (1, .int .u64 (b : Int)), (5, .int .u64 (((AAddV a b) : Nat) : Int)), (6, .int .i64 (((AAddE a b) : Nat) : Int)), (7, .int .u64 (((ASubV a b) : Nat) : Int)), (8, .int .i64 (((ASubE a b) : Nat) : Int)), (35, .bool (decide (4611686018427387904 < (a : Int))))] (by kernel_rfl) rfl ?_
  cases hb24 : (decide (4611686018427387904 < (a : Int)))
  · skip
    have hb24f := of_decide_eq_false hb24
    refine GL.run (j := 7) 4 [0, 1, 5, 6, 7, 8, 32] [(0, .int .u64 (a : Int)), (1, .int .u64 (b : Int)), (5, .int .u64 (((AAddV a b) : Nat) : Int)), (6, .int .i64 (((AAddE a b) : Nat) : Int)), (7, .int .u64 (((ASubV a b) : Nat) : Int)), (8, .int .i64 (((ASubE a b) : Nat) : Int)), (32, .bool (decide (4611686018427387904 < (b : Int))))] (by kernel_rfl) rfl ?_
    refine GL.k rfl hK23 (fun _ _ h => h) ?_
    cases hb25 : (decide (4611686018427387904 < (b : Int)))
    · skip
      have hb25f := of_decide_eq_false hb25
      refine G.no rfl ?_
      refine G.seqK fun K26 hK27 => ?_
      refine G.region ?_
      refine GL.run (j := 5) 5 [0, 1, 5, 6, 7, 8, 60] [(0, .int .u64 (a : Int)), (1, .int .u64 (b : Int)), (5, .int .u64 (((AAddV a b) : Nat) : Int)), (6, .int .i64 (((AAddE a b) : Nat) : Int)), (7, .int .u64 (((ASubV a b) : Nat) : Int)), (8, .int .i64 (((ASubE a b) : Nat) : Int)), (60, .bool (decide ((IntKind.u64.wrap (4611686018427387904 - (b : Int))) < (a : Int))))] (by kernel_rfl) rfl ?_
      have e28 : (IntKind.u64.wrap (4611686018427387904 - (b : Int))) = ((4611686018427387904 - b : Nat) : Int) := n_sub (a := 4611686018427387904) (b := b) (by omega) (by omega)
      refine GL.eq (M' := [(0, .int .u64 (a : Int)), (1, .int .u64 (b : Int)), (5, .int .u64 (((AAddV a b) : Nat) : Int)), (6, .int .i64 (((AAddE a b) : Nat) : Int)), (7, .int .u64 (((ASubV a b) : Nat) : Int)), (8, .int .i64 (((ASubE a b) : Nat) : Int)), (60, .bool (decide (((4611686018427387904 - b : Nat) : Int) < (a : Int))))]) (by rw [e28]) ?_
      clear e28
      refine GL.k rfl hK27 (fun _ _ h => h) ?_
      cases hb29 : (decide (((4611686018427387904 - b : Nat) : Int) < (a : Int)))
      · skip
        have hb29f := of_decide_eq_false hb29
        refine G.no rfl ?_
        refine G.seqK fun K30 hK31 => ?_
        refine G.region ?_
        refine GL.run (j := 3) 3 [0, 1, 5, 7, 8, 25] [(0, .int .u64 (a : Int)), (1, .int .u64 (b : Int)), (5, .int .u64 (((AAddV a b) : Nat) : Int)), (7, .int .u64 (((ASubV a b) : Nat) : Int)), (8, .int .i64 (((ASubE a b) : Nat) : Int)), (25, .bool ((((AAddE a b) : Nat) : Int) != 0))] (by kernel_rfl) rfl ?_
        cases hb32 : ((((AAddE a b) : Nat) : Int) != 0)
        · skip
          have hb32f : (((AAddE a b) : Nat) : Int) = 0 := bne_eq_false_iff_eq.1 hb32
          refine GL.run (j := 9) 6 [0, 1, 7, 8, 31] [(0, .int .u64 (a : Int)), (1, .int .u64 (b : Int)), (7, .int .u64 (((ASubV a b) : Nat) : Int)), (8, .int .i64 (((ASubE a b) : Nat) : Int)), (31, .bool ((((AAddV a b) : Nat) : Int) != (IntKind.u64.wrap ((a : Int) + (b : Int)))))] (by kernel_rfl) rfl ?_
          have e33 : (IntKind.u64.wrap ((a : Int) + (b : Int))) = ((a + b : Nat) : Int) := n_add' (a := a) (b := b) (by omega)
          refine GL.eq (M' := [(0, .int .u64 (a : Int)), (1, .int .u64 (b : Int)), (7, .int .u64 (((ASubV a b) : Nat) : Int)), (8, .int .i64 (((ASubE a b) : Nat) : Int)), (31, .bool ((((AAddV a b) : Nat) : Int) != ((a + b : Nat) : Int)))]) (by rw [e33]) ?_
          clear e33
          refine GL.k rfl hK31 (fun _ _ h => h) ?_
          cases hb34 : ((((AAddV a b) : Nat) : Int) != ((a + b : Nat) : Int))
          · skip
            have hb34f : (((AAddV a b) : Nat) : Int) = ((a + b : Nat) : Int) := bne_eq_false_iff_eq.1 hb34
            refine G.no rfl ?_
            refine G.skipK hK21 (fun _ _ h => h) ?_
            refine G.seqK fun K35 hK36 => ?_
            refine G.seqK fun K37 hK38 => ?_
            refine G.region ?_
            refine GL.run (j := 3) 3 [0, 1, 7, 8, 73] [(0, .int .u64 (a : Int)), (1, .int .u64 (b : Int)), (7, .int .u64 (((ASubV a b) : Nat) : Int)), (8, .int .i64 (((ASubE a b) : Nat) : Int)), (73, .bool (decide ((a : Int) < (b : Int))))] (by kernel_rfl) rfl ?_
            refine GL.k rfl hK38 (fun _ _ h => h) ?_
            cases hb39 : (decide ((a : Int) < (b : Int)))
            · skip
              have hb39f := of_decide_eq_false hb39
              refine G.no rfl ?_
              refine G.skipK hK36 (fun _ _ h => h) ?_
              refine G.seqK fun K40 hK41 => ?_
              refine G.region ?_
              refine GL.run (j := 3) 3 [0, 1, 7, 82] [(0, .int .u64 (a : Int)), (1, .int .u64 (b : Int)), (7, .int .u64 (((ASubV a b) : Nat) : Int)), (82, .bool ((((ASubE a b) : Nat) : Int) == 0))] (by kernel_rfl) rfl ?_
              cases hb42 : ((((ASubE a b) : Nat) : Int) == 0)
              · skip
                have hb42f := ne_of_beq_false hb42
                refine GL.run (j := 10) 7 [4] [(4, .bool false)] (by kernel_rfl) rfl ?_
                refine GL.k rfl hK41 (fun _ _ h => h) ?_
                refine G.ret ?_
                intro F_ hF_ hM_
                refine hRet _ _ (bodyPost_1 rfl (RV.tmp rfl) ?_ F_ hF_ hM_)
                exfalso
                omega
              · skip
                have hb42f := eq_of_beq hb42
                refine GL.run (j := 10) 7 [4] [(4, .bool ((IntKind.u64.wrap ((((ASubV a b) : Nat) : Int) + (b : Int))) == (a : Int)))] (by kernel_rfl) rfl ?_
                have e43 : (IntKind.u64.wrap ((((ASubV a b) : Nat) : Int) + (b : Int))) = (((ASubV a b) + b : Nat) : Int) := n_add' (a := (ASubV a b)) (b := b) (by omega)
                refine GL.eq (M' := [(4, .bool ((((ASubV a b) + b : Nat) : Int) == (a : Int)))]) (by rw [e43]) ?_
                clear e43
                refine GL.k rfl hK41 (fun _ _ h => h) ?_
                refine G.ret ?_
                intro F_ hF_ hM_
                refine hRet _ _ (bodyPost_1 rfl (RV.tmp rfl) ?_ F_ hF_ hM_)
                cases hb44 : ((((ASubV a b) + b : Nat) : Int) == (a : Int))
                · skip
                  have hb44f := ne_of_beq_false hb44
                  exfalso
                  omega
                · skip
                  have hb44f := eq_of_beq hb44
                  exact ⟨rfl, H18.sub (List.nil_sublist _)⟩
            · skip
              have hb39f := of_decide_eq_true hb39
              refine G.yes rfl ?_
              refine G.seqK fun K45 hK46 => ?_
              refine G.region ?_
              refine GL.run (j := 3) 3 [7, 76] [(7, .int .u64 (((ASubV a b) : Nat) : Int)), (76, .bool ((((ASubE a b) : Nat) : Int) == 16))] (by kernel_rfl) rfl ?_
              cases hb47 : ((((ASubE a b) : Nat) : Int) == 16)
              · skip
                have hb47f := ne_of_beq_false hb47
                refine GL.run (j := 7) 4 [4] [(4, .bool false)] (by kernel_rfl) rfl ?_
                refine GL.k rfl hK46 (fun _ _ h => h) ?_
                refine G.ret ?_
                intro F_ hF_ hM_
                refine hRet _ _ (bodyPost_1 rfl (RV.tmp rfl) ?_ F_ hF_ hM_)
                exfalso
                omega
              · skip
                have hb47f := eq_of_beq hb47
                refine GL.run (j := 7) 4 [4] [(4, .bool ((((ASubV a b) : Nat) : Int) == 0))] (by kernel_rfl) rfl ?_
                refine GL.k rfl hK46 (fun _ _ h => h) ?_
                refine G.ret ?_
                intro F_ hF_ hM_
                refine hRet _ _ (bodyPost_1 rfl (RV.tmp rfl) ?_ F_ hF_ hM_)
                cases hb48 : ((((ASubV a b) : Nat) : Int) == 0)
                · skip
                  have hb48f := ne_of_beq_false hb48
                  exfalso
                  omega
                · skip
                  have hb48f := eq_of_beq hb48
                  exact ⟨rfl, H18.sub (List.nil_sublist _)⟩
          · skip
            have hb34f : (((AAddV a b) : Nat) : Int) ≠ ((a + b : Nat) : Int) := bne_iff_ne.1 hb34
            refine G.yes rfl ?_
            refine G.seqK fun K49 hK50 => ?_
            refine G.region ?_
            refine GL.run (j := 1) 1 [4] [(4, .bool false)] (by kernel_rfl) rfl ?_
            refine GL.k rfl hK50 (fun _ _ h => h) ?_
            refine G.ret ?_
            intro F_ hF_ hM_
            refine hRet _ _ (bodyPost_1 rfl (RV.tmp rfl) ?_ F_ hF_ hM_)
            exfalso
            omega
        · skip
          have hb32f : (((AAddE a b) : Nat) : Int) ≠ 0 := bne_iff_ne.1 hb32
          refine GL.run (j := 9) 6 [0, 1, 7, 8, 31] [(0, .int .u64 (a : Int)), (1, .int .u64 (b : Int)), (7, .int .u64 (((ASubV a b) : Nat) : Int)), (8, .int .i64 (((ASubE a b) : Nat) : Int)), (31, .bool true)] (by kernel_rfl) rfl ?_
          refine GL.k rfl hK31 (fun _ _ h => h) ?_
          refine G.yes rfl ?_
          refine G.seqK fun K51 hK52 => ?_
          refine G.region ?_
          refine GL.run (j := 1) 1 [4] [(4, .bool false)] (by kernel_rfl) rfl ?_
          refine GL.k rfl hK52 (fun _ _ h => h) ?_
          refine G.ret ?_
          intro F_ hF_ hM_
          refine hRet _ _ (bodyPost_1 rfl (RV.tmp rfl) ?_ F_ hF_ hM_)
          exfalso
          omega
      · skip
        have hb29f := of_decide_eq_true hb29
        refine G.yes rfl ?_
        refine G.seqK fun K53 hK54 => ?_
        refine G.region ?_
        refine GL.run (j := 3) 3 [0, 1, 5, 7, 8, 67] [(0, .int .u64 (a : Int)), (1, .int .u64 (b : Int)), (5, .int .u64 (((AAddV a b) : Nat) : Int)), (7, .int .u64 (((ASubV a b) : Nat) : Int)), (8, .int .i64 (((ASubE a b) : Nat) : Int)), (67, .bool ((((AAddE a b) : Nat) : Int) != 4))] (by kernel_rfl) rfl ?_
        cases hb55 : ((((AAddE a b) : Nat) : Int) != 4)
        · skip
          have hb55f : (((AAddE a b) : Nat) : Int) = 4 := bne_eq_false_iff_eq.1 hb55
          refine GL.run (j := 6) 3 [0, 1, 7, 8, 70] [(0, .int .u64 (a : Int)), (1, .int .u64 (b : Int)), (7, .int .u64 (((ASubV a b) : Nat) : Int)), (8, .int .i64 (((ASubE a b) : Nat) : Int)), (70, .bool ((((AAddV a b) : Nat) : Int) != 0))] (by kernel_rfl) rfl ?_
          refine GL.k rfl hK54 (fun _ _ h => h) ?_
          cases hb56 : ((((AAddV a b) : Nat) : Int) != 0)
          · skip
            have hb56f : (((AAddV a b) : Nat) : Int) = 0 := bne_eq_false_iff_eq.1 hb56
            refine G.no rfl ?_
            refine G.skipK hK21 (fun _ _ h => h) ?_
            refine G.seqK fun K57 hK58 => ?_
            refine G.seqK fun K59 hK60 => ?_
            refine G.region ?_
            refine GL.run (j := 3) 3 [0, 1, 7, 8, 73] [(0, .int .u64 (a : Int)), (1, .int .u64 (b : Int)), (7, .int .u64 (((ASubV a b) : Nat) : Int)), (8, .int .i64 (((ASubE a b) : Nat) : Int)), (73, .bool (decide ((a : Int) < (b : Int))))] (by kernel_rfl) rfl ?_
            refine GL.k rfl hK60 (fun _ _ h => h) ?_
            cases hb61 : (decide ((a : Int) < (b : Int)))
            · skip
              have hb61f := of_decide_eq_false hb61
              refine G.no rfl ?_
              refine G.skipK hK58 (fun _ _ h => h) ?_
              refine G.seqK fun K62 hK63 => ?_
              refine G.region ?_
              refine GL.run (j := 3) 3 [0, 1, 7, 82] [(0, .int .u64 (a : Int)), (1, .int .u64 (b : Int)), (7, .int .u64 (((ASubV a b) : Nat) : Int)), (82, .bool ((((ASubE a b) : Nat) : Int) == 0))] (by kernel_rfl) rfl ?_
              cases hb64 : ((((ASubE a b) : Nat) : Int) == 0)
              · skip
                have hb64f := ne_of_beq_false hb64
                refine GL.run (j := 10) 7 [4] [(4, .bool false)] (by kernel_rfl) rfl ?_
                refine GL.k rfl hK63 (fun _ _ h => h) ?_
                refine G.ret ?_
                intro F_ hF_ hM_
                refine hRet _ _ (bodyPost_1 rfl (RV.tmp rfl) ?_ F_ hF_ hM_)
                exfalso
                omega
              · skip
                have hb64f := eq_of_beq hb64
                refine GL.run (j := 10) 7 [4] [(4, .bool ((IntKind.u64.wrap ((((ASubV a b) : Nat) : Int) + (b : Int))) == (a : Int)))] (by kernel_rfl) rfl ?_
                have e65 : (IntKind.u64.wrap ((((ASubV a b) : Nat) : Int) + (b : Int))) = (((ASubV a b) + b : Nat) : Int) := n_add' (a := (ASubV a b)) (b := b) (by omega)
                refine GL.eq (M' := [(4, .bool ((((ASubV a b) + b : Nat) : Int) == (a : Int)))]) (by rw [e65]) ?_
                clear e65
                refine GL.k rfl hK63 (fun _ _ h => h) ?_
                refine G.ret ?_
                intro F_ hF_ hM_
                refine hRet _ _ (bodyPost_1 rfl (RV.tmp rfl) ?_ F_ hF_ hM_)
                cases hb66 : ((((ASubV a b) + b : Nat) : Int) == (a : Int))
                · skip
                  have hb66f := ne_of_beq_false hb66
                  exfalso
                  omega
                · skip
                  have hb66f := eq_of_beq hb66
                  exact ⟨rfl, H18.sub (List.nil_sublist _)⟩
            · skip
              have hb61f := of_decide_eq_true hb61
              refine G.yes rfl ?_
              refine G.seqK fun K67 hK68 => ?_
              refine G.region ?_
              refine GL.run (j := 3) 3 [7, 76] [(7, .int .u64 (((ASubV a b) : Nat) : Int)), (76, .bool ((((ASubE a b) : Nat) : Int) == 16))] (by kernel_rfl) rfl ?_
              cases hb69 : ((((ASubE a b) : Nat) : Int) == 16)
              · skip
                have hb69f := ne_of_beq_false hb69
                refine GL.run (j := 7) 4 [4] [(4, .bool false)] (by kernel_rfl) rfl ?_
                refine GL.k rfl hK68 (fun _ _ h => h) ?_
                refine G.ret ?_
                intro F_ hF_ hM_
                refine hRet _ _ (bodyPost_1 rfl (RV.tmp rfl) ?_ F_ hF_ hM_)
                exfalso
                omega
              · skip
                have hb69f := eq_of_beq hb69
                refine GL.run (j := 7) 4 [4] [(4, .bool ((((ASubV a b) : Nat) : Int) == 0))] (by kernel_rfl) rfl ?_
                refine GL.k rfl hK68 (fun _ _ h => h) ?_
                refine G.ret ?_
                intro F_ hF_ hM_
                refine hRet _ _ (bodyPost_1 rfl (RV.tmp rfl) ?_ F_ hF_ hM_)
                cases hb70 : ((((ASubV a b) : Nat) : Int) == 0)
                · skip
                  have hb70f := ne_of_beq_false hb70
                  exfalso
                  omega
                · skip
                  have hb70f := eq_of_beq hb70
                  exact ⟨rfl, H18.sub (List.nil_sublist _)⟩
          · skip
            have hb56f : (((AAddV a b) : Nat) : Int) ≠ 0 := bne_iff_ne.1 hb56
            refine G.yes rfl ?_
            refine G.seqK fun K71 hK72 => ?_
            refine G.region ?_
            refine GL.run (j := 1) 1 [4] [(4, .bool false)] (by kernel_rfl) rfl ?_
            refine GL.k rfl hK72 (fun _ _ h => h) ?_
            refine G.ret ?_
            intro F_ hF_ hM_
            refine hRet _ _ (bodyPost_1 rfl (RV.tmp rfl) ?_ F_ hF_ hM_)
            exfalso
            omega
        · skip
          have hb55f : (((AAddE a b) : Nat) : Int) ≠ 4 := bne_iff_ne.1 hb55
          refine GL.run (j := 6) 3 [0, 1, 7, 8, 70] [(0, .int .u64 (a : Int)), (1, .int .u64 (b : Int)), (7, .int .u64 (((ASubV a b) : Nat) : Int)), (8, .int .i64 (((ASubE a b) : Nat) : Int)), (70, .bool true)] (by kernel_rfl) rfl ?_
          refine GL.k rfl hK54 (fun _ _ h => h) ?_
          refine G.yes rfl ?_
          refine G.seqK fun K73 hK74 => ?_
          refine G.region ?_
          refine GL.run (j := 1) 1 [4] [(4, .bool false)] (by kernel_rfl) rfl ?_
          refine GL.k rfl hK74 (fun _ _ h => h) ?_
          refine G.ret ?_
          intro F_ hF_ hM_
          refine hRet _ _ (bodyPost_1 rfl (RV.tmp rfl) ?_ F_ hF_ hM_)
          exfalso
          omega
    · skip
      have hb25f := of_decide_eq_true hb25
      refine G.yes rfl ?_
      refine G.seqK fun K75 hK76 => ?_
      refine G.region ?_
      refine GL.run (j := 3) 3 [0, 5, 7, 8, 41] [(0, .int .u64 (a : Int)), (5, .int .u64 (((AAddV a b) : Nat) : Int)), (7, .int .u64 (((ASubV a b) : Nat) : Int)), (8, .int .i64 (((ASubE a b) : Nat) : Int)), (41, .bool ((((AAddE a b) : Nat) : Int) == 1))] (by kernel_rfl) rfl ?_
      cases hb77 : ((((AAddE a b) : Nat) : Int) == 1)
      · skip
        have hb77f := ne_of_beq_false hb77
        refine GL.run (j := 22) 19 [4] [(4, .bool false)] (by kernel_rfl) rfl ?_
        refine GL.k rfl hK76 (fun _ _ h => h) ?_
        refine G.ret ?_
        intro F_ hF_ hM_
        refine hRet _ _ (bodyPost_1 rfl (RV.tmp rfl) ?_ F_ hF_ hM_)
        exfalso
        omega
      · skip
        have hb77f := eq_of_beq hb77
        refine GL.run (j := 7) 4 [0, 5, 7, 45] [(0, .int .u64 (a : Int)), (5, .int .u64 (((AAddV a b) : Nat) : Int)), (7, .int .u64 (((ASubV a b) : Nat) : Int)), (45, .bool ((((ASubE a b) : Nat) : Int) == 1))] (by kernel_rfl) rfl ?_
        cases hb78 : ((((ASubE a b) : Nat) : Int) == 1)
        · skip
          have hb78f := ne_of_beq_false hb78
          refine GL.run (j := 22) 15 [4] [(4, .bool false)] (by kernel_rfl) rfl ?_
          refine GL.k rfl hK76 (fun _ _ h => h) ?_
          refine G.ret ?_
          intro F_ hF_ hM_
          refine hRet _ _ (bodyPost_1 rfl (RV.tmp rfl) ?_ F_ hF_ hM_)
          exfalso
          omega
        · skip
          have hb78f := eq_of_beq hb78
          refine GL.run (j := 11) 4 [0, 7, 49] [(0, .int .u64 (a : Int)), (7, .int .u64 (((ASubV a b) : Nat) : Int)), (49, .bool ((((AAddV a b) : Nat) : Int) == 0))] (by kernel_rfl) rfl ?_
          cases hb79 : ((((AAddV a b) : Nat) : Int) == 0)
          · skip
            have hb79f := ne_of_beq_false hb79
            refine GL.run (j := 22) 11 [4] [(4, .bool false)] (by kernel_rfl) rfl ?_
            refine GL.k rfl hK76 (fun _ _ h => h) ?_
            refine G.ret ?_
            intro F_ hF_ hM_
            refine hRet _ _ (bodyPost_1 rfl (RV.tmp rfl) ?_ F_ hF_ hM_)
            exfalso
            omega
          · skip
            have hb79f := eq_of_beq hb79
            refine GL.run (j := 15) 4 [0, 53] [(0, .int .u64 (a : Int)), (53, .bool ((((ASubV a b) : Nat) : Int) == 0))] (by kernel_rfl) rfl ?_
            cases hb80 : ((((ASubV a b) : Nat) : Int) == 0)
            · skip
              have hb80f := ne_of_beq_false hb80
              refine GL.run (j := 22) 7 [4] [(4, .bool false)] (by kernel_rfl) rfl ?_
              refine GL.k rfl hK76 (fun _ _ h => h) ?_
              refine G.ret ?_
              intro F_ hF_ hM_
              refine hRet _ _ (bodyPost_1 rfl (RV.tmp rfl) ?_ F_ hF_ hM_)
              exfalso
              omega
            · skip
              have hb80f := eq_of_beq hb80
              refine GL.run (j := 16) 1 [0, 53, 54] [(0, .int .u64 (a : Int)), (53, .bool true), (54, .int .u64 (a : Int))] (by kernel_rfl) rfl ?_
              refine GL.call (j := 17) (Right_calls a w17) (by kernel_rfl) rfl (fun e_ w81 hR => ?_)
              obtain ⟨rfl, H83⟩ := hR
              have H82 : Hp w [] [] w81 := H18.callNil H83
              refine ⟨_, rfl, [0, 53, 55], [(0, .int .u64 (a : Int)), (53, .bool true), (55, .bool (decide ((a : Int) ≤ 4611686018427387904)))], by kernel_rfl, ?_⟩
              refine GL.run (j := 22) 5 [4] [(4, .bool ((decide ((a : Int) ≤ 4611686018427387904)) == (decide ((a : Int) ≤ 4611686018427387904))))] (by kernel_rfl) rfl ?_
              refine GL.k rfl hK76 (fun _ _ h => h) ?_
              refine G.ret ?_
              intro F_ hF_ hM_
              refine hRet _ _ (bodyPost_1 rfl (RV.tmp rfl) ?_ F_ hF_ hM_)
              have hb84 : ((decide ((a : Int) ≤ 4611686018427387904)) == (decide ((a : Int) ≤ 4611686018427387904))) = true := beq_self_eq_true _
              rw [hb84]
              exact ⟨rfl, H82.sub (List.nil_sublist _)⟩
  · skip
    have hb24f := of_decide_eq_true hb24
    refine GL.run (j := 7) 4 [0, 1, 5, 6, 7, 8, 32] [(0, .int .u64 (a : Int)), (1, .int .u64 (b : Int)), (5, .int .u64 (((AAddV a b) : Nat) : Int)), (6, .int .i64 (((AAddE a b) : Nat) : Int)), (7, .int .u64 (((ASubV a b) : Nat) : Int)), (8, .int .i64 (((ASubE a b) : Nat) : Int)), (32, .bool true)] (by kernel_rfl) rfl ?_
    refine GL.k rfl hK23 (fun _ _ h => h) ?_
    refine G.yes rfl ?_
    refine G.seqK fun K85 hK86 => ?_
    refine G.region ?_
    refine GL.run (j := 3) 3 [0, 5, 7, 8, 41] [(0, .int .u64 (a : Int)), (5, .int .u64 (((AAddV a b) : Nat) : Int)), (7, .int .u64 (((ASubV a b) : Nat) : Int)), (8, .int .i64 (((ASubE a b) : Nat) : Int)), (41, .bool ((((AAddE a b) : Nat) : Int) == 1))] (by kernel_rfl) rfl ?_
    cases hb87 : ((((AAddE a b) : Nat) : Int) == 1)
    · skip
      have hb87f := ne_of_beq_false hb87
      refine GL.run (j := 22) 19 [4] [(4, .bool false)] (by kernel_rfl) rfl ?_
      refine GL.k rfl hK86 (fun _ _ h => h) ?_
      refine G.ret ?_
      intro F_ hF_ hM_
      refine hRet _ _ (bodyPost_1 rfl (RV.tmp rfl) ?_ F_ hF_ hM_)
      exfalso
      omega
    · skip
      have hb87f := eq_of_beq hb87
      refine GL.run (j := 7) 4 [0, 5, 7, 45] [(0, .int .u64 (a : Int)), (5, .int .u64 (((AAddV a b) : Nat) : Int)), (7, .int .u64 (((ASubV a b) : Nat) : Int)), (45, .bool ((((ASubE a b) : Nat) : Int) == 1))] (by kernel_rfl) rfl ?_
      cases hb88 : ((((ASubE a b) : Nat) : Int) == 1)
      · skip
        have hb88f := ne_of_beq_false hb88
        refine GL.run (j := 22) 15 [4] [(4, .bool false)] (by kernel_rfl) rfl ?_
        refine GL.k rfl hK86 (fun _ _ h => h) ?_
        refine G.ret ?_
        intro F_ hF_ hM_
        refine hRet _ _ (bodyPost_1 rfl (RV.tmp rfl) ?_ F_ hF_ hM_)
        exfalso
        omega
      · skip
        have hb88f := eq_of_beq hb88
        refine GL.run (j := 11) 4 [0, 7, 49] [(0, .int .u64 (a : Int)), (7, .int .u64 (((ASubV a b) : Nat) : Int)), (49, .bool ((((AAddV a b) : Nat) : Int) == 0))] (by kernel_rfl) rfl ?_
        cases hb89 : ((((AAddV a b) : Nat) : Int) == 0)
        · skip
          have hb89f := ne_of_beq_false hb89
          refine GL.run (j := 22) 11 [4] [(4, .bool false)] (by kernel_rfl) rfl ?_
          refine GL.k rfl hK86 (fun _ _ h => h) ?_
          refine G.ret ?_
          intro F_ hF_ hM_
          refine hRet _ _ (bodyPost_1 rfl (RV.tmp rfl) ?_ F_ hF_ hM_)
          exfalso
          omega
        · skip
          have hb89f := eq_of_beq hb89
          refine GL.run (j := 15) 4 [0, 53] [(0, .int .u64 (a : Int)), (53, .bool ((((ASubV a b) : Nat) : Int) == 0))] (by kernel_rfl) rfl ?_
          cases hb90 : ((((ASubV a b) : Nat) : Int) == 0)
          · skip
            have hb90f := ne_of_beq_false hb90
            refine GL.run (j := 22) 7 [4] [(4, .bool false)] (by kernel_rfl) rfl ?_
            refine GL.k rfl hK86 (fun _ _ h => h) ?_
            refine G.ret ?_
            intro F_ hF_ hM_
            refine hRet _ _ (bodyPost_1 rfl (RV.tmp rfl) ?_ F_ hF_ hM_)
            exfalso
            omega
          · skip
            have hb90f := eq_of_beq hb90
            refine GL.run (j := 16) 1 [0, 53, 54] [(0, .int .u64 (a : Int)), (53, .bool true), (54, .int .u64 (a : Int))] (by kernel_rfl) rfl ?_
            refine GL.call (j := 17) (Right_calls a w17) (by kernel_rfl) rfl (fun e_ w91 hR => ?_)
            obtain ⟨rfl, H93⟩ := hR
            have H92 : Hp w [] [] w91 := H18.callNil H93
            refine ⟨_, rfl, [0, 53, 55], [(0, .int .u64 (a : Int)), (53, .bool true), (55, .bool (decide ((a : Int) ≤ 4611686018427387904)))], by kernel_rfl, ?_⟩
            refine GL.run (j := 22) 5 [4] [(4, .bool ((decide ((a : Int) ≤ 4611686018427387904)) == (decide ((a : Int) ≤ 4611686018427387904))))] (by kernel_rfl) rfl ?_
            refine GL.k rfl hK86 (fun _ _ h => h) ?_
            refine G.ret ?_
            intro F_ hF_ hM_
            refine hRet _ _ (bodyPost_1 rfl (RV.tmp rfl) ?_ F_ hF_ hM_)
            have hb94 : ((decide ((a : Int) ≤ 4611686018427387904)) == (decide ((a : Int) ≤ 4611686018427387904))) = true := beq_self_eq_true _
            rw [hb94]
            exact ⟨rfl, H92.sub (List.nil_sublist _)⟩
end Go.Proofs.Ytgbhiklengafiaa
