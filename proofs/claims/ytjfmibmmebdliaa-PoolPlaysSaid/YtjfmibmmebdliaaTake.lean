/- The contracts of package pool: taken. -/
import Derived.Test.YtjfmibmmebdliaaPool
namespace Go.Proofs.Ytjfmibmmebdliaa
open Go.RowKit
/-- What is taken: why not; what there is then. -/
def tkE (c i a b : Nat) : Nat := if MX < a ∨ MX < b then 1 else if MX < c + a ∨ MX < i + b then 4 else 0
def AAddE (a b : Nat) : Nat := if MX < a ∨ MX < b then 1 else if MX < a + b then 4 else 0
def AAddV (a b : Nat) : Nat := if MX < a ∨ MX < b then 0 else if MX < a + b then 0 else a + b
theorem AAdd_cases (a b : Nat) : ((MX < a ∨ MX < b) ∧ AAddE a b = 1 ∧ AAddV a b = 0) ∨ (¬ (MX < a ∨ MX < b) ∧ MX < a + b ∧ AAddE a b = 4 ∧ AAddV a b = 0) ∨ (¬ (MX < a ∨ MX < b) ∧ ¬ MX < a + b ∧ AAddE a b = 0 ∧ AAddV a b = a + b) := by
  unfold AAddE AAddV
  repeat' split
  all_goals omega
theorem AAdd_calls (a b : Nat) (ha : a < K) (hb : b < K) (w : World) : Calls Try.prog 12 #[.int .u64 (a : Int), .int .u64 (b : Int)] w fun e w' => e = .returned (.tuple #[.int .u64 ((AAddV a b : Nat) : Int), .int .i64 ((AAddE a b : Nat) : Int)]) ∧ Hp w [] [] w' := by
  have hMX : MX = 4611686018427387904 := rfl
  have hK0 : K = 18446744073709551616 := rfl
  have hK40 : K4 = 115792089237316195423570985008687907853269984665640564039457584007913129639936 := rfl
  refine calls_G (args := [.int .u64 (a : Int), .int .u64 (b : Int)]) Try.func12 rfl Try.ntmps12 rfl ?_
  intro Q0 hRet hNor hPan
  have H := Hp.start w
  have H : Hp w [] [] w := H
  refine G.seqK fun K1 hK2 => ?_
  refine G.region ?_
  refine GL.run (j := 2) 2 [0, 1] [(0, .int .u64 (a : Int)), (1, .int .u64 (b : Int))] (by kernel_rfl) rfl ?_
  refine GL.k rfl hK2 (fun _ _ h => h) ?_
  refine G.seqK fun K3 hK4 => ?_
  refine G.block ?_
  refine G.seqK fun K5 hK6 => ?_
  refine G.region ?_
  refine GL.run (j := 1) 1 [0, 1, 7] [(0, .int .u64 (a : Int)), (1, .int .u64 (b : Int)), (7, .int .u64 (a : Int))] (by kernel_rfl) rfl ?_
  refine GL.call (j := 2) (Right_calls a w) (by kernel_rfl) rfl (fun e_ w7 hR => ?_)
  obtain ⟨rfl, H9⟩ := hR
  have H8 : Hp w [] [] w7 := H.callNil H9
  refine ⟨_, rfl, [0, 1, 8], [(0, .int .u64 (a : Int)), (1, .int .u64 (b : Int)), (8, .bool (decide ((a : Int) ≤ 4611686018427387904)))], by kernel_rfl, ?_⟩
  refine GL.run (j := 4) 2 [0, 1, 10] [(0, .int .u64 (a : Int)), (1, .int .u64 (b : Int)), (10, .bool (!(decide ((a : Int) ≤ 4611686018427387904))))] (by kernel_rfl) rfl ?_
  cases hb10 : (decide ((a : Int) ≤ 4611686018427387904))
  · skip
    have hb10f := of_decide_eq_false hb10
    refine GL.run (j := 9) 5 [0, 1, 6] [(0, .int .u64 (a : Int)), (1, .int .u64 (b : Int)), (6, .bool true)] (by kernel_rfl) rfl ?_
    refine GL.k rfl hK6 (fun _ _ h => h) ?_
    refine G.yes rfl ?_
    refine G.seqK fun K11 hK12 => ?_
    refine G.region ?_
    refine GL.run (j := 2) 2 [4, 5] [(4, .int .u64 0), (5, .int .i64 1)] (by kernel_rfl) rfl ?_
    refine GL.k rfl hK12 (fun _ _ h => h) ?_
    refine G.ret ?_
    intro F_ hF_ hM_
    refine hRet _ _ (bodyPost_2 rfl (RV.tmp rfl) (RV.tmp rfl) ?_ F_ hF_ hM_)
    have eVE : AAddV a b = 0 ∧ AAddE a b = 1 := by
      unfold AAddV AAddE
      simp only [MX] at *
      constructor <;> repeat' split
      all_goals omega
    rw [eVE.1, eVE.2]
    exact ⟨rfl, H8.sub (List.nil_sublist _)⟩
  · skip
    have hb10f := of_decide_eq_true hb10
    refine GL.run (j := 5) 1 [0, 1, 10, 11] [(0, .int .u64 (a : Int)), (1, .int .u64 (b : Int)), (10, .bool false), (11, .int .u64 (b : Int))] (by kernel_rfl) rfl ?_
    refine GL.call (j := 6) (Right_calls b w7) (by kernel_rfl) rfl (fun e_ w13 hR => ?_)
    obtain ⟨rfl, H15⟩ := hR
    have H14 : Hp w [] [] w13 := H8.callNil H15
    refine ⟨_, rfl, [0, 1, 10, 12], [(0, .int .u64 (a : Int)), (1, .int .u64 (b : Int)), (10, .bool false), (12, .bool (decide ((b : Int) ≤ 4611686018427387904)))], by kernel_rfl, ?_⟩
    refine GL.run (j := 9) 3 [0, 1, 6] [(0, .int .u64 (a : Int)), (1, .int .u64 (b : Int)), (6, .bool (!(decide ((b : Int) ≤ 4611686018427387904))))] (by kernel_rfl) rfl ?_
    refine GL.k rfl hK6 (fun _ _ h => h) ?_
    cases hb16 : (decide ((b : Int) ≤ 4611686018427387904))
    · skip
      have hb16f := of_decide_eq_false hb16
      refine G.yes rfl ?_
      refine G.seqK fun K17 hK18 => ?_
      refine G.region ?_
      refine GL.run (j := 2) 2 [4, 5] [(4, .int .u64 0), (5, .int .i64 1)] (by kernel_rfl) rfl ?_
      refine GL.k rfl hK18 (fun _ _ h => h) ?_
      refine G.ret ?_
      intro F_ hF_ hM_
      refine hRet _ _ (bodyPost_2 rfl (RV.tmp rfl) (RV.tmp rfl) ?_ F_ hF_ hM_)
      have eVE : AAddV a b = 0 ∧ AAddE a b = 1 := by
        unfold AAddV AAddE
        simp only [MX] at *
        constructor <;> repeat' split
        all_goals omega
      rw [eVE.1, eVE.2]
      exact ⟨rfl, H14.sub (List.nil_sublist _)⟩
    · skip
      have hb16f := of_decide_eq_true hb16
      refine G.no rfl ?_
      refine G.seqK fun K19 hK20 => ?_
      refine G.region ?_
      refine GL.run (j := 3) 3 [0, 1, 18] [(0, .int .u64 (a : Int)), (1, .int .u64 (b : Int)), (18, .int .u64 (IntKind.u64.wrap ((a : Int) + (b : Int))))] (by kernel_rfl) rfl ?_
      have e21 : (IntKind.u64.wrap ((a : Int) + (b : Int))) = ((a + b : Nat) : Int) := n_add' (a := a) (b := b) (by omega)
      refine GL.eq (M' := [(0, .int .u64 (a : Int)), (1, .int .u64 (b : Int)), (18, .int .u64 ((a + b : Nat) : Int))]) (by rw [e21]) ?_
      clear e21
      refine GL.call (j := 4) (Right_calls (a + b) w13) (by kernel_rfl) rfl (fun e_ w22 hR => ?_)
      obtain ⟨rfl, H24⟩ := hR
      have H23 : Hp w [] [] w22 := H14.callNil H24
      refine ⟨_, rfl, [0, 1, 19], [(0, .int .u64 (a : Int)), (1, .int .u64 (b : Int)), (19, .bool (decide ((a + b : Int) ≤ 4611686018427387904)))], by kernel_rfl, ?_⟩
      refine GL.run (j := 6) 2 [0, 1, 15] [(0, .int .u64 (a : Int)), (1, .int .u64 (b : Int)), (15, .bool (!(decide ((a + b : Int) ≤ 4611686018427387904))))] (by kernel_rfl) rfl ?_
      refine GL.k rfl hK20 (fun _ _ h => h) ?_
      cases hb25 : (decide ((a + b : Int) ≤ 4611686018427387904))
      · skip
        have hb25f := of_decide_eq_false hb25
        refine G.yes rfl ?_
        refine G.seqK fun K26 hK27 => ?_
        refine G.region ?_
        refine GL.run (j := 2) 2 [4, 5] [(4, .int .u64 0), (5, .int .i64 4)] (by kernel_rfl) rfl ?_
        refine GL.k rfl hK27 (fun _ _ h => h) ?_
        refine G.ret ?_
        intro F_ hF_ hM_
        refine hRet _ _ (bodyPost_2 rfl (RV.tmp rfl) (RV.tmp rfl) ?_ F_ hF_ hM_)
        have eVE : AAddV a b = 0 ∧ AAddE a b = 4 := by
          unfold AAddV AAddE
          simp only [MX] at *
          constructor <;> repeat' split
          all_goals omega
        rw [eVE.1, eVE.2]
        exact ⟨rfl, H23.sub (List.nil_sublist _)⟩
      · skip
        have hb25f := of_decide_eq_true hb25
        refine G.no rfl ?_
        refine G.skipK hK4 (fun _ _ h => h) ?_
        refine G.seqK fun K28 hK29 => ?_
        refine G.region ?_
        refine GL.run (j := 5) 5 [4, 5] [(4, .int .u64 (IntKind.u64.wrap ((a : Int) + (b : Int)))), (5, .int .i64 0)] (by kernel_rfl) rfl ?_
        have e30 : (IntKind.u64.wrap ((a : Int) + (b : Int))) = ((a + b : Nat) : Int) := n_add' (a := a) (b := b) (by omega)
        refine GL.eq (M' := [(4, .int .u64 ((a + b : Nat) : Int)), (5, .int .i64 0)]) (by rw [e30]) ?_
        clear e30
        refine GL.k rfl hK29 (fun _ _ h => h) ?_
        refine G.ret ?_
        intro F_ hF_ hM_
        refine hRet _ _ (bodyPost_2 rfl (RV.tmp rfl) (RV.tmp rfl) ?_ F_ hF_ hM_)
        have eVE : AAddV a b = a + b ∧ AAddE a b = 0 := by
          unfold AAddV AAddE
          simp only [MX] at *
          constructor <;> repeat' split
          all_goals omega
        rw [eVE.1, eVE.2]
        exact ⟨rfl, H23.sub (List.nil_sublist _)⟩
theorem Take_calls (b0 c i a b : Nat) (hc : c ≤ MX) (hi : i ≤ MX) (ha : a < K) (hb : b < K) (w : World) (hb0 : Blk w b0 [.int .u64 (c : Int), .int .u64 (i : Int)] 26) : Calls Try.prog 7 #[pt b0 0, .int .u64 (a : Int), .int .u64 (b : Int)] w fun e w' => e = .returned (.int .i64 ((tkE c i a b : Nat) : Int)) ∧ (tkE c i a b = 0 → Hp w [b0] [.blk b0 [.int .u64 (((c + a) : Nat) : Int), .int .u64 (((i + b) : Nat) : Int)] 26] w') ∧ (tkE c i a b ≠ 0 → Hp w [b0] [.blk b0 [.int .u64 (c : Int), .int .u64 (i : Int)] 26] w') := by
  have hMX : MX = 4611686018427387904 := rfl
  have hK0 : K = 18446744073709551616 := rfl
  have hK40 : K4 = 115792089237316195423570985008687907853269984665640564039457584007913129639936 := rfl
  have k1 := AAdd_cases c a
  have k2 := AAdd_cases i b
  refine calls_G (args := [pt b0 0, .int .u64 (a : Int), .int .u64 (b : Int)]) Try.func7 rfl Try.ntmps7 rfl ?_
  intro Q0 hRet hNor hPan
  have H := Hp.startBlk hb0
  have H : Hp w [b0] [.blk b0 [.int .u64 (c : Int), .int .u64 (i : Int)] 26] w := H
  refine G.seqK fun K1 hK2 => ?_
  refine G.region ?_
  refine GL.run (j := 1) 1 [0, 1, 2] [(0, pt b0 0), (1, .int .u64 (a : Int)), (2, .int .u64 (b : Int))] (by kernel_rfl) rfl ?_
  refine GL.k rfl hK2 (fun _ _ h => h) ?_
  refine G.seqK fun K3 hK4 => ?_
  refine G.seqK fun K5 hK6 => ?_
  refine G.region ?_
  refine GL.run (j := 2) 2 [0, 1, 2, 12] [(0, pt b0 0), (1, .int .u64 (a : Int)), (2, .int .u64 (b : Int)), (12, .bool false)] (by kernel_rfl) rfl ?_
  refine GL.k rfl hK6 (fun _ _ h => h) ?_
  refine G.no rfl ?_
  refine G.skipK hK4 (fun _ _ h => h) ?_
  refine G.seqK fun K7 hK8 => ?_
  refine G.region ?_
  refine GL.run (j := 3) 3 [0, 1, 2, 16] [(0, pt b0 0), (1, .int .u64 (a : Int)), (2, .int .u64 (b : Int)), (16, pt b0 0)] (by kernel_rfl) rfl ?_
  refine GL.sem (j := 4) (H.ld (o := 0) (ty := 23) (v := .int .u64 (c : Int)) 0 rfl (by kernel_rfl) rfl) [0, 1, 2, 17] [(0, pt b0 0), (1, .int .u64 (a : Int)), (2, .int .u64 (b : Int)), (17, .int .u64 (c : Int))] (by kernel_rfl) (by kernel_rfl) rfl ?_
  refine GL.run (j := 5) 1 [0, 2, 17, 18] [(0, pt b0 0), (2, .int .u64 (b : Int)), (17, .int .u64 (c : Int)), (18, .int .u64 (a : Int))] (by kernel_rfl) rfl ?_
  refine GL.call (j := 6) (AAdd_calls c a (by omega) (by omega) w) (by kernel_rfl) rfl (fun e_ w9 hR => ?_)
  obtain ⟨rfl, H11⟩ := hR
  have H10 : Hp w [b0] [.blk b0 [.int .u64 (c : Int), .int .u64 (i : Int)] 26] w9 := H.callNil H11
  refine ⟨_, rfl, [0, 2, 19], [(0, pt b0 0), (2, .int .u64 (b : Int)), (19, .tuple #[.int .u64 (((AAddV c a) : Nat) : Int), .int .i64 (((AAddE c a) : Nat) : Int)])], by kernel_rfl, ?_⟩
  refine GL.run (j := 11) 5 [0, 2, 7, 8] [(0, pt b0 0), (2, .int .u64 (b : Int)), (7, .int .u64 (((AAddV c a) : Nat) : Int)), (8, .int .i64 (((AAddE c a) : Nat) : Int))] (by kernel_rfl) rfl ?_
  refine GL.k rfl hK8 (fun _ _ h => h) ?_
  refine G.seqK fun K12 hK13 => ?_
  refine G.region ?_
  refine GL.run (j := 3) 3 [0, 2, 7, 8, 25] [(0, pt b0 0), (2, .int .u64 (b : Int)), (7, .int .u64 (((AAddV c a) : Nat) : Int)), (8, .int .i64 (((AAddE c a) : Nat) : Int)), (25, pt b0 1)] (by kernel_rfl) rfl ?_
  refine GL.sem (j := 4) (H10.ld (o := 1) (ty := 23) (v := .int .u64 (i : Int)) 0 rfl (by kernel_rfl) rfl) [0, 2, 7, 8, 26] [(0, pt b0 0), (2, .int .u64 (b : Int)), (7, .int .u64 (((AAddV c a) : Nat) : Int)), (8, .int .i64 (((AAddE c a) : Nat) : Int)), (26, .int .u64 (i : Int))] (by kernel_rfl) (by kernel_rfl) rfl ?_
  refine GL.run (j := 5) 1 [0, 7, 8, 26, 27] [(0, pt b0 0), (7, .int .u64 (((AAddV c a) : Nat) : Int)), (8, .int .i64 (((AAddE c a) : Nat) : Int)), (26, .int .u64 (i : Int)), (27, .int .u64 (b : Int))] (by kernel_rfl) rfl ?_
  refine GL.call (j := 6) (AAdd_calls i b (by omega) (by omega) w9) (by kernel_rfl) rfl (fun e_ w14 hR => ?_)
  obtain ⟨rfl, H16⟩ := hR
  have H15 : Hp w [b0] [.blk b0 [.int .u64 (c : Int), .int .u64 (i : Int)] 26] w14 := H10.callNil H16
  refine ⟨_, rfl, [0, 7, 8, 28], [(0, pt b0 0), (7, .int .u64 (((AAddV c a) : Nat) : Int)), (8, .int .i64 (((AAddE c a) : Nat) : Int)), (28, .tuple #[.int .u64 (((AAddV i b) : Nat) : Int), .int .i64 (((AAddE i b) : Nat) : Int)])], by kernel_rfl, ?_⟩
  refine GL.run (j := 11) 5 [0, 7, 8, 9, 10] [(0, pt b0 0), (7, .int .u64 (((AAddV c a) : Nat) : Int)), (8, .int .i64 (((AAddE c a) : Nat) : Int)), (9, .int .u64 (((AAddV i b) : Nat) : Int)), (10, .int .i64 (((AAddE i b) : Nat) : Int))] (by kernel_rfl) rfl ?_
  refine GL.k rfl hK13 (fun _ _ h => h) ?_
  refine G.seqK fun K17 hK18 => ?_
  refine G.block ?_
  refine G.seqK fun K19 hK20 => ?_
  refine G.region ?_
  refine GL.run (j := 3) 3 [0, 7, 8, 9, 10, 34] [(0, pt b0 0), (7, .int .u64 (((AAddV c a) : Nat) : Int)), (8, .int .i64 (((AAddE c a) : Nat) : Int)), (9, .int .u64 (((AAddV i b) : Nat) : Int)), (10, .int .i64 (((AAddE i b) : Nat) : Int)), (34, .bool ((((AAddE c a) : Nat) : Int) == 1))] (by kernel_rfl) rfl ?_
  cases hb21 : ((((AAddE c a) : Nat) : Int) == 1)
  · skip
    have hb21f := ne_of_beq_false hb21
    refine GL.run (j := 7) 4 [0, 7, 8, 9, 10, 31] [(0, pt b0 0), (7, .int .u64 (((AAddV c a) : Nat) : Int)), (8, .int .i64 (((AAddE c a) : Nat) : Int)), (9, .int .u64 (((AAddV i b) : Nat) : Int)), (10, .int .i64 (((AAddE i b) : Nat) : Int)), (31, .bool ((((AAddE i b) : Nat) : Int) == 1))] (by kernel_rfl) rfl ?_
    refine GL.k rfl hK20 (fun _ _ h => h) ?_
    cases hb22 : ((((AAddE i b) : Nat) : Int) == 1)
    · skip
      have hb22f := ne_of_beq_false hb22
      refine G.no rfl ?_
      refine G.seqK fun K23 hK24 => ?_
      refine G.region ?_
      refine GL.run (j := 3) 3 [0, 7, 9, 10, 41] [(0, pt b0 0), (7, .int .u64 (((AAddV c a) : Nat) : Int)), (9, .int .u64 (((AAddV i b) : Nat) : Int)), (10, .int .i64 (((AAddE i b) : Nat) : Int)), (41, .bool ((((AAddE c a) : Nat) : Int) != 0))] (by kernel_rfl) rfl ?_
      cases hb25 : ((((AAddE c a) : Nat) : Int) != 0)
      · skip
        have hb25f : (((AAddE c a) : Nat) : Int) = 0 := by simpa using hb25
        refine GL.run (j := 7) 4 [0, 7, 9, 38] [(0, pt b0 0), (7, .int .u64 (((AAddV c a) : Nat) : Int)), (9, .int .u64 (((AAddV i b) : Nat) : Int)), (38, .bool ((((AAddE i b) : Nat) : Int) != 0))] (by kernel_rfl) rfl ?_
        refine GL.k rfl hK24 (fun _ _ h => h) ?_
        cases hb26 : ((((AAddE i b) : Nat) : Int) != 0)
        · skip
          have hb26f : (((AAddE i b) : Nat) : Int) = 0 := by simpa using hb26
          refine G.no rfl ?_
          refine G.skipK hK18 (fun _ _ h => h) ?_
          refine G.seqK fun K27 hK28 => ?_
          refine G.region ?_
          refine GL.run (j := 6) 6 [46, 47, 48, 50] [(46, pt b0 0), (47, .int .u64 (((AAddV c a) : Nat) : Int)), (48, .int .u64 (((AAddV i b) : Nat) : Int)), (50, pt b0 0)] (by kernel_rfl) rfl ?_
          obtain ⟨w29, r30, H31⟩ := H15.st (P := Try.prog) (o := 0) (ty := 23) (v := .int .u64 (((AAddV c a) : Nat) : Int)) 0 rfl (by kernel_rfl) (by simp) rfl
          have H31 : Hp w [b0] [.blk b0 [.int .u64 (((AAddV c a) : Nat) : Int), .int .u64 (i : Int)] 26] w29 := H31
          refine GL.semU (j := 7) r30 [46, 48] [(46, pt b0 0), (48, .int .u64 (((AAddV i b) : Nat) : Int))] (by kernel_rfl) rfl rfl rfl ?_
          refine GL.run (j := 9) 2 [48, 52] [(48, .int .u64 (((AAddV i b) : Nat) : Int)), (52, pt b0 1)] (by kernel_rfl) rfl ?_
          obtain ⟨w32, r33, H34⟩ := H31.st (P := Try.prog) (o := 1) (ty := 23) (v := .int .u64 (((AAddV i b) : Nat) : Int)) 0 rfl (by kernel_rfl) (by simp) rfl
          have H34 : Hp w [b0] [.blk b0 [.int .u64 (((AAddV c a) : Nat) : Int), .int .u64 (((AAddV i b) : Nat) : Int)] 26] w32 := H34
          refine GL.semU (j := 10) r33 [] [] (by kernel_rfl) rfl rfl rfl ?_
          refine GL.k rfl hK28 (fun _ _ h => h) ?_
          refine G.seqK fun K35 hK36 => ?_
          refine G.region ?_
          refine GL.run (j := 1) 1 [6] [(6, .int .i64 0)] (by kernel_rfl) rfl ?_
          refine GL.k rfl hK36 (fun _ _ h => h) ?_
          refine G.ret ?_
          intro F_ hF_ hM_
          refine hRet _ _ (bodyPost_1 rfl (RV.tmp rfl) ?_ F_ hF_ hM_)
          have e0 : tkE c i a b = 0 := by unfold tkE; (repeat' split) <;> omega
          have e1 : AAddV c a = c + a := by omega
          have e2 : AAddV i b = i + b := by omega
          have HF := H34
          rw [e1, e2] at HF
          exact ⟨congrArg (fun n : Nat => Ending.returned (.int .i64 (n : Int))) e0.symm, fun _ => HF, fun h => absurd e0 h⟩
        · skip
          have hb26f : (((AAddE i b) : Nat) : Int) ≠ 0 := by simpa using hb26
          refine G.yes rfl ?_
          refine G.seqK fun K38 hK39 => ?_
          refine G.region ?_
          refine GL.run (j := 1) 1 [6] [(6, .int .i64 4)] (by kernel_rfl) rfl ?_
          refine GL.k rfl hK39 (fun _ _ h => h) ?_
          refine G.ret ?_
          intro F_ hF_ hM_
          refine hRet _ _ (bodyPost_1 rfl (RV.tmp rfl) ?_ F_ hF_ hM_)
          have e0 : tkE c i a b = 4 := by unfold tkE; (repeat' split) <;> omega
          exact ⟨congrArg (fun n : Nat => Ending.returned (.int .i64 (n : Int))) e0.symm, fun h => absurd (e0.symm.trans h) (by decide), fun _ => H15⟩
      · skip
        have hb25f : (((AAddE c a) : Nat) : Int) ≠ 0 := by simpa using hb25
        refine GL.run (j := 7) 4 [0, 7, 9, 38] [(0, pt b0 0), (7, .int .u64 (((AAddV c a) : Nat) : Int)), (9, .int .u64 (((AAddV i b) : Nat) : Int)), (38, .bool true)] (by kernel_rfl) rfl ?_
        refine GL.k rfl hK24 (fun _ _ h => h) ?_
        refine G.yes rfl ?_
        refine G.seqK fun K40 hK41 => ?_
        refine G.region ?_
        refine GL.run (j := 1) 1 [6] [(6, .int .i64 4)] (by kernel_rfl) rfl ?_
        refine GL.k rfl hK41 (fun _ _ h => h) ?_
        refine G.ret ?_
        intro F_ hF_ hM_
        refine hRet _ _ (bodyPost_1 rfl (RV.tmp rfl) ?_ F_ hF_ hM_)
        have e0 : tkE c i a b = 4 := by unfold tkE; (repeat' split) <;> omega
        exact ⟨congrArg (fun n : Nat => Ending.returned (.int .i64 (n : Int))) e0.symm, fun h => absurd (e0.symm.trans h) (by decide), fun _ => H15⟩
    · skip
      have hb22f := eq_of_beq hb22
      refine G.yes rfl ?_
      refine G.seqK fun K42 hK43 => ?_
      refine G.region ?_
      refine GL.run (j := 1) 1 [6] [(6, .int .i64 1)] (by kernel_rfl) rfl ?_
      refine GL.k rfl hK43 (fun _ _ h => h) ?_
      refine G.ret ?_
      intro F_ hF_ hM_
      refine hRet _ _ (bodyPost_1 rfl (RV.tmp rfl) ?_ F_ hF_ hM_)
      have e0 : tkE c i a b = 1 := by unfold tkE; (repeat' split) <;> omega
      exact ⟨congrArg (fun n : Nat => Ending.returned (.int .i64 (n : Int))) e0.symm, fun h => absurd (e0.symm.trans h) (by decide), fun _ => H15⟩
  · skip
    have hb21f := eq_of_beq hb21
    refine GL.run (j := 7) 4 [0, 7, 8, 9, 10, 31] [(0, pt b0 0), (7, .int .u64 (((AAddV c a) : Nat) : Int)), (8, .int .i64 (((AAddE c a) : Nat) : Int)), (9, .int .u64 (((AAddV i b) : Nat) : Int)), (10, .int .i64 (((AAddE i b) : Nat) : Int)), (31, .bool true)] (by kernel_rfl) rfl ?_
    refine GL.k rfl hK20 (fun _ _ h => h) ?_
    refine G.yes rfl ?_
    refine G.seqK fun K44 hK45 => ?_
    refine G.region ?_
    refine GL.run (j := 1) 1 [6] [(6, .int .i64 1)] (by kernel_rfl) rfl ?_
    refine GL.k rfl hK45 (fun _ _ h => h) ?_
    refine G.ret ?_
    intro F_ hF_ hM_
    refine hRet _ _ (bodyPost_1 rfl (RV.tmp rfl) ?_ F_ hF_ hM_)
    have e0 : tkE c i a b = 1 := by unfold tkE; (repeat' split) <;> omega
    exact ⟨congrArg (fun n : Nat => Ending.returned (.int .i64 (n : Int))) e0.symm, fun h => absurd (e0.symm.trans h) (by decide), fun _ => H15⟩
theorem Take_nil (a b : Nat) (w : World) : Calls Try.prog 7 #[.pointer none, .int .u64 (a : Int), .int .u64 (b : Int)] w fun e w' => e = .returned (.int .i64 1) ∧ Hp w [] [] w' := by
  refine calls_G (args := [.pointer none, .int .u64 (a : Int), .int .u64 (b : Int)]) Try.func7 rfl Try.ntmps7 rfl ?_
  intro Q0 hRet hNor hPan
  have H := Hp.start w
  have H : Hp w [] [] w := H
  refine G.seqK fun K1 hK2 => ?_
  refine G.region ?_
  refine GL.run (j := 1) 1 [0, 1, 2] [(0, .pointer none), (1, .int .u64 (a : Int)), (2, .int .u64 (b : Int))] (by kernel_rfl) rfl ?_
  refine GL.k rfl hK2 (fun _ _ h => h) ?_
  refine G.seqK fun K3 hK4 => ?_
  refine G.seqK fun K5 hK6 => ?_
  refine G.region ?_
  refine GL.run (j := 2) 2 [0, 1, 2, 12] [(0, .pointer none), (1, .int .u64 (a : Int)), (2, .int .u64 (b : Int)), (12, .bool true)] (by kernel_rfl) rfl ?_
  refine GL.k rfl hK6 (fun _ _ h => h) ?_
  refine G.yes rfl ?_
  refine G.seqK fun K7 hK8 => ?_
  refine G.region ?_
  refine GL.run (j := 1) 1 [6] [(6, .int .i64 1)] (by kernel_rfl) rfl ?_
  refine GL.k rfl hK8 (fun _ _ h => h) ?_
  refine G.ret ?_
  intro F_ hF_ hM_
  refine hRet _ _ (bodyPost_1 rfl (RV.tmp rfl) ?_ F_ hF_ hM_)
  exact ⟨rfl, H.sub (List.nil_sublist _)⟩
end Go.Proofs.Ytjfmibmmebdliaa
