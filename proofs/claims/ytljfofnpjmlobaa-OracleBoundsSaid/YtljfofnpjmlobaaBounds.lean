/- The next price is taken just if it is between the bounds: the walk. -/
import Derived.Test.YtljfofnpjmlobaaLives
namespace Go.Proofs.Ytljfofnpjmlobaa
open Go.RowKit
theorem OracleBounds_calls (m p q a n : Nat) (hm : m < K) (hp : p < K) (hq : q < K) (ha : a < K) (hn : n < K) (w : World) : Calls Try.prog 3 #[.int .u64 (m : Int), .int .u64 (p : Int), .int .u64 (q : Int), .int .u64 (a : Int), .int .u64 (n : Int)] w fun e w' => e = .returned (.bool true) ∧ Hp w [] [] w' := by
  have hMX : MX = 4611686018427387904 := rfl
  have hK0 : K = 18446744073709551616 := rfl
  have hK40 : K4 = 115792089237316195423570985008687907853269984665640564039457584007913129639936 := rfl
  refine calls_G (args := [.int .u64 (m : Int), .int .u64 (p : Int), .int .u64 (q : Int), .int .u64 (a : Int), .int .u64 (n : Int)]) Try.func3 rfl Try.ntmps3 rfl ?_
  intro Q0 hRet hNor hPan
  have H := Hp.start w
  have H : Hp w [] [] w := H
  refine G.seqK fun K1 hK2 => ?_
  refine G.region ?_
  refine GL.run (j := 1) 1 [0, 1, 2, 3, 4] [(0, .int .u64 (m : Int)), (1, .int .u64 (p : Int)), (2, .int .u64 (q : Int)), (3, .int .u64 (a : Int)), (4, .int .u64 (n : Int))] (by kernel_rfl) rfl ?_
  refine GL.k rfl hK2 (fun _ _ h => h) ?_
  refine G.seqK fun K3 hK4 => ?_
  refine G.seqK fun K5 hK6 => ?_
  refine G.region ?_
  refine GL.call (j := 1) (lives_calls w) (by kernel_rfl) rfl (fun e_ w7 hR => ?_)
  obtain ⟨rfl, H9⟩ := hR
  have H8 : Hp w [] [] w7 := H.callNil H9
  refine ⟨_, rfl, [0, 1, 2, 3, 4, 19], [(0, .int .u64 (m : Int)), (1, .int .u64 (p : Int)), (2, .int .u64 (q : Int)), (3, .int .u64 (a : Int)), (4, .int .u64 (n : Int)), (19, .bool true)], by kernel_rfl, ?_⟩
  refine GL.run (j := 2) 1 [0, 1, 2, 3, 4, 20] [(0, .int .u64 (m : Int)), (1, .int .u64 (p : Int)), (2, .int .u64 (q : Int)), (3, .int .u64 (a : Int)), (4, .int .u64 (n : Int)), (20, .bool false)] (by kernel_rfl) rfl ?_
  refine GL.k rfl hK6 (fun _ _ h => h) ?_
  refine G.no rfl ?_
  refine G.skipK hK4 (fun _ _ h => h) ?_
  refine G.seqK fun K10 hK11 => ?_
  refine G.region ?_
  obtain ⟨v12, hv12⟩ : ∃ v : Nat, v = m % 1001 := ⟨_, rfl⟩
  refine GL.run (j := 3) 3 [1, 2, 3, 4, 24] [(1, .int .u64 (p : Int)), (2, .int .u64 (q : Int)), (3, .int .u64 (a : Int)), (4, .int .u64 (n : Int)), (24, .agg #[.int .u64 (Int.tmod (m : Int) 1001), .int .u64 5])] (by kernel_rfl) rfl ?_
  have e13 : (Int.tmod (m : Int) 1001) = (v12 : Int) := by rw [hv12]; exact n_rem _ 1001
  refine GL.eq (M' := [(1, .int .u64 (p : Int)), (2, .int .u64 (q : Int)), (3, .int .u64 (a : Int)), (4, .int .u64 (n : Int)), (24, .agg #[.int .u64 (v12 : Int), .int .u64 5])]) (by rw [e13]) ?_
  clear e13
  refine GL.call (j := 4) (New_calls v12 5 (by omega) (by omega) w7) (by kernel_rfl) rfl (fun e_ w15 hR => ?_)
  obtain ⟨p14, rfl, H17⟩ := hR
  have H16 : Hp w [] [.blk p14 [.int .u64 (v12 : Int), .int .u64 5, .int .u64 0, .int .u64 0] 46] w15 := H8.callNew H17
  refine ⟨_, rfl, [1, 2, 3, 4, 25], [(1, .int .u64 (p : Int)), (2, .int .u64 (q : Int)), (3, .int .u64 (a : Int)), (4, .int .u64 (n : Int)), (25, .tuple #[.pointer (some ⟨p14, 0, none⟩), .int .i64 0])], by kernel_rfl, ?_⟩
  refine GL.run (j := 9) 5 [1, 2, 3, 4, 11, 12] [(1, .int .u64 (p : Int)), (2, .int .u64 (q : Int)), (3, .int .u64 (a : Int)), (4, .int .u64 (n : Int)), (11, .pointer (some ⟨p14, 0, none⟩)), (12, .int .i64 0)] (by kernel_rfl) rfl ?_
  refine GL.k rfl hK11 (fun _ _ h => h) ?_
  refine G.seqK fun K18 hK19 => ?_
  refine G.region ?_
  obtain ⟨v20, hv20⟩ : ∃ v : Nat, v = p % 1099511627776 := ⟨_, rfl⟩
  obtain ⟨v21, hv21⟩ : ∃ v : Nat, v = 1 + v20 := ⟨_, rfl⟩
  obtain ⟨v22, hv22⟩ : ∃ v : Nat, v = a % 549755813888 := ⟨_, rfl⟩
  refine GL.run (j := 7) 7 [1, 2, 3, 4, 11, 12] [(1, .int .u64 (IntKind.u64.wrap (1 + (Int.tmod (p : Int) 1099511627776)))), (2, .int .u64 (q : Int)), (3, .int .u64 (Int.tmod (a : Int) 549755813888)), (4, .int .u64 (n : Int)), (11, .pointer (some ⟨p14, 0, none⟩)), (12, .int .i64 0)] (by kernel_rfl) rfl ?_
  have e23 : (Int.tmod (p : Int) 1099511627776) = (v20 : Int) := by rw [hv20]; exact n_rem _ 1099511627776
  have e24 : (IntKind.u64.wrap (1 + (v20 : Int))) = (v21 : Int) := by rw [hv21]; exact n_add' (a := 1) (b := v20) (by omega)
  have e25 : (Int.tmod (a : Int) 549755813888) = (v22 : Int) := by rw [hv22]; exact n_rem _ 549755813888
  refine GL.eq (M' := [(1, .int .u64 (v21 : Int)), (2, .int .u64 (q : Int)), (3, .int .u64 (v22 : Int)), (4, .int .u64 (n : Int)), (11, .pointer (some ⟨p14, 0, none⟩)), (12, .int .i64 0)]) (by rw [e23, e24, e25]) ?_
  clear e23 e24 e25
  refine GL.k rfl hK19 (fun _ _ h => h) ?_
  refine G.seqK fun K26 hK27 => ?_
  refine G.region ?_
  obtain ⟨v28, hv28⟩ : ∃ v : Nat, v = v22 + 1 := ⟨_, rfl⟩
  obtain ⟨v29, hv29⟩ : ∃ v : Nat, v = n % 1000 := ⟨_, rfl⟩
  obtain ⟨v30, hv30⟩ : ∃ v : Nat, v = v28 + v29 := ⟨_, rfl⟩
  refine GL.run (j := 6) 6 [1, 2, 3, 4, 11, 12] [(1, .int .u64 (v21 : Int)), (2, .int .u64 (q : Int)), (3, .int .u64 (v22 : Int)), (4, .int .u64 (IntKind.u64.wrap ((IntKind.u64.wrap ((v22 : Int) + 1)) + (Int.tmod (n : Int) 1000)))), (11, .pointer (some ⟨p14, 0, none⟩)), (12, .int .i64 0)] (by kernel_rfl) rfl ?_
  have e31 : (IntKind.u64.wrap ((v22 : Int) + 1)) = (v28 : Int) := by rw [hv28]; exact n_add' (a := v22) (b := 1) (by omega)
  have e32 : (Int.tmod (n : Int) 1000) = (v29 : Int) := by rw [hv29]; exact n_rem _ 1000
  have e33 : (IntKind.u64.wrap ((v28 : Int) + (v29 : Int))) = (v30 : Int) := by rw [hv30]; exact n_add' (a := v28) (b := v29) (by omega)
  refine GL.eq (M' := [(1, .int .u64 (v21 : Int)), (2, .int .u64 (q : Int)), (3, .int .u64 (v22 : Int)), (4, .int .u64 (v30 : Int)), (11, .pointer (some ⟨p14, 0, none⟩)), (12, .int .i64 0)]) (by rw [e31, e32, e33]) ?_
  clear e31 e32 e33
  refine GL.k rfl hK27 (fun _ _ h => h) ?_
  refine G.seqK fun K34 hK35 => ?_
  refine G.seqK fun K36 hK37 => ?_
  refine G.region ?_
  refine GL.run (j := 6) 6 [1, 2, 3, 4, 11, 40, 41, 42, 43] [(1, .int .u64 (v21 : Int)), (2, .int .u64 (q : Int)), (3, .int .u64 (v22 : Int)), (4, .int .u64 (v30 : Int)), (11, .pointer (some ⟨p14, 0, none⟩)), (40, .bool false), (41, .pointer (some ⟨p14, 0, none⟩)), (42, .int .u64 (v21 : Int)), (43, .int .u64 (v22 : Int))] (by kernel_rfl) rfl ?_
  have hcw38 := set_cases v12 0 0 v21 v22
  obtain ⟨b1, b2⟩ := bounds_none v12
  have e0 : setE v12 0 0 v21 v22 = 0 := by omega
  have e1 : setP v12 0 0 v21 v22 = v21 := by omega
  have e2 : setT v12 0 0 v21 v22 = v22 := by omega
  refine GL.call (j := 7) (Set_calls p14 v12 5 0 0 v21 v22 (by omega) (by omega) (by omega) (by omega) (by omega) w15 (H16.blkAt 0 rfl)) (by kernel_rfl) rfl (fun e_ w38 hR => ?_)
  obtain ⟨he_, H40⟩ := hR
  rw [e0] at he_
  subst he_
  rw [e1, e2] at H40
  have H39 : Hp w [] [.blk p14 [.int .u64 (v12 : Int), .int .u64 5, .int .u64 (v21 : Int), .int .u64 (v22 : Int)] 46] w38 := H16.callIn 0 rfl H40
  refine ⟨_, rfl, [1, 2, 3, 4, 11, 40, 44], [(1, .int .u64 (v21 : Int)), (2, .int .u64 (q : Int)), (3, .int .u64 (v22 : Int)), (4, .int .u64 (v30 : Int)), (11, .pointer (some ⟨p14, 0, none⟩)), (40, .bool false), (44, .int .i64 0)], by kernel_rfl, ?_⟩
  refine GL.run (j := 9) 2 [1, 2, 3, 4, 11, 46] [(1, .int .u64 (v21 : Int)), (2, .int .u64 (q : Int)), (3, .int .u64 (v22 : Int)), (4, .int .u64 (v30 : Int)), (11, .pointer (some ⟨p14, 0, none⟩)), (46, .bool false)] (by kernel_rfl) rfl ?_
  refine GL.k rfl hK37 (fun _ _ h => h) ?_
  refine G.no rfl ?_
  refine G.skipK hK35 (fun _ _ h => h) ?_
  refine G.seqK fun K41 hK42 => ?_
  refine G.region ?_
  refine GL.run (j := 1) 1 [1, 2, 3, 4, 11, 48] [(1, .int .u64 (v21 : Int)), (2, .int .u64 (q : Int)), (3, .int .u64 (v22 : Int)), (4, .int .u64 (v30 : Int)), (11, .pointer (some ⟨p14, 0, none⟩)), (48, .pointer (some ⟨p14, 0, none⟩))] (by kernel_rfl) rfl ?_
  have hbo := bounds_ok (m := v12) (p := v21) (by omega) (by omega) (by omega)
  refine GL.call (j := 2) (Bounds_calls p14 v12 5 v21 v22 (by omega) (by omega) w38 (H39.blkAt 0 rfl)) (by kernel_rfl) rfl (fun e_ w43 hR => ?_)
  obtain ⟨rfl, H45⟩ := hR
  have H44 : Hp w [] [.blk p14 [.int .u64 (v12 : Int), .int .u64 5, .int .u64 (v21 : Int), .int .u64 (v22 : Int)] 46] w43 := H39.callIn 0 rfl H45
  refine ⟨_, rfl, [1, 2, 3, 4, 11, 49], [(1, .int .u64 (v21 : Int)), (2, .int .u64 (q : Int)), (3, .int .u64 (v22 : Int)), (4, .int .u64 (v30 : Int)), (11, .pointer (some ⟨p14, 0, none⟩)), (49, .tuple #[.int .u64 (((lowV v12 v21) : Nat) : Int), .int .u64 (((highV v12 v21) : Nat) : Int)])], by kernel_rfl, ?_⟩
  refine GL.run (j := 7) 5 [1, 2, 3, 4, 11, 13, 14] [(1, .int .u64 (v21 : Int)), (2, .int .u64 (q : Int)), (3, .int .u64 (v22 : Int)), (4, .int .u64 (v30 : Int)), (11, .pointer (some ⟨p14, 0, none⟩)), (13, .int .u64 (((lowV v12 v21) : Nat) : Int)), (14, .int .u64 (((highV v12 v21) : Nat) : Int))] (by kernel_rfl) rfl ?_
  refine GL.k rfl hK42 (fun _ _ h => h) ?_
  refine G.seqK fun K46 hK47 => ?_
  refine G.seqK fun K48 hK49 => ?_
  refine G.region ?_
  refine GL.run (j := 3) 3 [1, 2, 3, 4, 11, 13, 14, 54] [(1, .int .u64 (v21 : Int)), (2, .int .u64 (q : Int)), (3, .int .u64 (v22 : Int)), (4, .int .u64 (v30 : Int)), (11, .pointer (some ⟨p14, 0, none⟩)), (13, .int .u64 (((lowV v12 v21) : Nat) : Int)), (14, .int .u64 (((highV v12 v21) : Nat) : Int)), (54, .bool (decide ((((lowV v12 v21) : Nat) : Int) < 1)))] (by kernel_rfl) rfl ?_
  cases hb50 : (decide ((((lowV v12 v21) : Nat) : Int) < 1))
  · skip
    have hb50f := of_decide_eq_false hb50
    refine GL.run (j := 7) 4 [1, 2, 3, 4, 11, 13, 14, 58] [(1, .int .u64 (v21 : Int)), (2, .int .u64 (q : Int)), (3, .int .u64 (v22 : Int)), (4, .int .u64 (v30 : Int)), (11, .pointer (some ⟨p14, 0, none⟩)), (13, .int .u64 (((lowV v12 v21) : Nat) : Int)), (14, .int .u64 (((highV v12 v21) : Nat) : Int)), (58, .bool (decide (1099511627776 < (((highV v12 v21) : Nat) : Int))))] (by kernel_rfl) rfl ?_
    cases hb51 : (decide (1099511627776 < (((highV v12 v21) : Nat) : Int)))
    · skip
      have hb51f := of_decide_eq_false hb51
      refine GL.run (j := 12) 5 [1, 2, 3, 4, 11, 13, 14, 63] [(1, .int .u64 (v21 : Int)), (2, .int .u64 (q : Int)), (3, .int .u64 (v22 : Int)), (4, .int .u64 (v30 : Int)), (11, .pointer (some ⟨p14, 0, none⟩)), (13, .int .u64 (((lowV v12 v21) : Nat) : Int)), (14, .int .u64 (((highV v12 v21) : Nat) : Int)), (63, .bool (decide ((v21 : Int) < (((lowV v12 v21) : Nat) : Int))))] (by kernel_rfl) rfl ?_
      cases hb52 : (decide ((v21 : Int) < (((lowV v12 v21) : Nat) : Int)))
      · skip
        have hb52f := of_decide_eq_false hb52
        refine GL.run (j := 16) 4 [1, 2, 3, 4, 11, 13, 14, 67] [(1, .int .u64 (v21 : Int)), (2, .int .u64 (q : Int)), (3, .int .u64 (v22 : Int)), (4, .int .u64 (v30 : Int)), (11, .pointer (some ⟨p14, 0, none⟩)), (13, .int .u64 (((lowV v12 v21) : Nat) : Int)), (14, .int .u64 (((highV v12 v21) : Nat) : Int)), (67, .bool (decide ((((highV v12 v21) : Nat) : Int) < (v21 : Int))))] (by kernel_rfl) rfl ?_
        refine GL.k rfl hK49 (fun _ _ h => h) ?_
        cases hb53 : (decide ((((highV v12 v21) : Nat) : Int) < (v21 : Int)))
        · skip
          have hb53f := of_decide_eq_false hb53
          refine G.no rfl ?_
          refine G.skipK hK47 (fun _ _ h => h) ?_
          refine G.seqK fun K54 hK55 => ?_
          refine G.region ?_
          refine GL.run (j := 3) 3 [1, 2, 3, 4, 11, 13, 14, 68, 69, 70] [(1, .int .u64 (v21 : Int)), (2, .int .u64 (q : Int)), (3, .int .u64 (v22 : Int)), (4, .int .u64 (v30 : Int)), (11, .pointer (some ⟨p14, 0, none⟩)), (13, .int .u64 (((lowV v12 v21) : Nat) : Int)), (14, .int .u64 (((highV v12 v21) : Nat) : Int)), (68, .pointer (some ⟨p14, 0, none⟩)), (69, .int .u64 (q : Int)), (70, .int .u64 (v30 : Int))] (by kernel_rfl) rfl ?_
          have hcw56 := set_cases v12 v21 v22 q v30
          refine GL.call (j := 4) (Set_calls p14 v12 5 v21 v22 q v30 (by omega) (by omega) (by omega) (by omega) (by omega) w43 (H44.blkAt 0 rfl)) (by kernel_rfl) rfl (fun e_ w56 hR => ?_)
          obtain ⟨rfl, H58⟩ := hR
          have H57 : Hp w [] [.blk p14 [.int .u64 (v12 : Int), .int .u64 5, .int .u64 (((setP v12 v21 v22 q v30) : Nat) : Int), .int .u64 (((setT v12 v21 v22 q v30) : Nat) : Int)] 46] w56 := H44.callIn 0 rfl H58
          refine ⟨_, rfl, [1, 2, 3, 4, 11, 13, 14, 71], [(1, .int .u64 (v21 : Int)), (2, .int .u64 (q : Int)), (3, .int .u64 (v22 : Int)), (4, .int .u64 (v30 : Int)), (11, .pointer (some ⟨p14, 0, none⟩)), (13, .int .u64 (((lowV v12 v21) : Nat) : Int)), (14, .int .u64 (((highV v12 v21) : Nat) : Int)), (71, .int .i64 (((setE v12 v21 v22 q v30) : Nat) : Int))], by kernel_rfl, ?_⟩
          refine GL.run (j := 5) 1 [1, 2, 3, 4, 11, 13, 14, 15] [(1, .int .u64 (v21 : Int)), (2, .int .u64 (q : Int)), (3, .int .u64 (v22 : Int)), (4, .int .u64 (v30 : Int)), (11, .pointer (some ⟨p14, 0, none⟩)), (13, .int .u64 (((lowV v12 v21) : Nat) : Int)), (14, .int .u64 (((highV v12 v21) : Nat) : Int)), (15, .int .i64 (((setE v12 v21 v22 q v30) : Nat) : Int))] (by kernel_rfl) rfl ?_
          refine GL.k rfl hK55 (fun _ _ h => h) ?_
          refine G.seqK fun K59 hK60 => ?_
          refine G.region ?_
          refine GL.run (j := 1) 1 [1, 2, 3, 4, 13, 14, 15, 73] [(1, .int .u64 (v21 : Int)), (2, .int .u64 (q : Int)), (3, .int .u64 (v22 : Int)), (4, .int .u64 (v30 : Int)), (13, .int .u64 (((lowV v12 v21) : Nat) : Int)), (14, .int .u64 (((highV v12 v21) : Nat) : Int)), (15, .int .i64 (((setE v12 v21 v22 q v30) : Nat) : Int)), (73, .pointer (some ⟨p14, 0, none⟩))] (by kernel_rfl) rfl ?_
          refine GL.call (j := 2) (Last_calls p14 v12 5 (setP v12 v21 v22 q v30) (setT v12 v21 v22 q v30) w56 (H57.blkAt 0 rfl)) (by kernel_rfl) rfl (fun e_ w61 hR => ?_)
          obtain ⟨rfl, H63⟩ := hR
          have H62 : Hp w [] [.blk p14 [.int .u64 (v12 : Int), .int .u64 5, .int .u64 (((setP v12 v21 v22 q v30) : Nat) : Int), .int .u64 (((setT v12 v21 v22 q v30) : Nat) : Int)] 46] w61 := H57.callIn 0 rfl H63
          refine ⟨_, rfl, [1, 2, 3, 4, 13, 14, 15, 74], [(1, .int .u64 (v21 : Int)), (2, .int .u64 (q : Int)), (3, .int .u64 (v22 : Int)), (4, .int .u64 (v30 : Int)), (13, .int .u64 (((lowV v12 v21) : Nat) : Int)), (14, .int .u64 (((highV v12 v21) : Nat) : Int)), (15, .int .i64 (((setE v12 v21 v22 q v30) : Nat) : Int)), (74, .tuple #[.int .u64 (((setP v12 v21 v22 q v30) : Nat) : Int), .int .u64 (((setT v12 v21 v22 q v30) : Nat) : Int), .bool (decide (0 < (setP v12 v21 v22 q v30)))])], by kernel_rfl, ?_⟩
          refine GL.run (j := 9) 7 [1, 2, 3, 4, 13, 14, 15, 16, 17, 18] [(1, .int .u64 (v21 : Int)), (2, .int .u64 (q : Int)), (3, .int .u64 (v22 : Int)), (4, .int .u64 (v30 : Int)), (13, .int .u64 (((lowV v12 v21) : Nat) : Int)), (14, .int .u64 (((highV v12 v21) : Nat) : Int)), (15, .int .i64 (((setE v12 v21 v22 q v30) : Nat) : Int)), (16, .int .u64 (((setP v12 v21 v22 q v30) : Nat) : Int)), (17, .int .u64 (((setT v12 v21 v22 q v30) : Nat) : Int)), (18, .bool (decide (0 < (setP v12 v21 v22 q v30))))] (by kernel_rfl) rfl ?_
          refine GL.k rfl hK60 (fun _ _ h => h) ?_
          refine G.seqK fun K64 hK65 => ?_
          refine G.seqK fun K66 hK67 => ?_
          refine G.region ?_
          refine GL.run (j := 4) 4 [1, 2, 3, 4, 14, 15, 16, 17, 18, 81] [(1, .int .u64 (v21 : Int)), (2, .int .u64 (q : Int)), (3, .int .u64 (v22 : Int)), (4, .int .u64 (v30 : Int)), (14, .int .u64 (((highV v12 v21) : Nat) : Int)), (15, .int .i64 (((setE v12 v21 v22 q v30) : Nat) : Int)), (16, .int .u64 (((setP v12 v21 v22 q v30) : Nat) : Int)), (17, .int .u64 (((setT v12 v21 v22 q v30) : Nat) : Int)), (18, .bool (decide (0 < (setP v12 v21 v22 q v30)))), (81, .bool (decide ((((lowV v12 v21) : Nat) : Int) ≤ (q : Int))))] (by kernel_rfl) rfl ?_
          cases hb68 : (decide ((((lowV v12 v21) : Nat) : Int) ≤ (q : Int)))
          · skip
            have hb68f := of_decide_eq_false hb68
            refine GL.run (j := 8) 4 [1, 2, 3, 4, 15, 16, 17, 18, 85] [(1, .int .u64 (v21 : Int)), (2, .int .u64 (q : Int)), (3, .int .u64 (v22 : Int)), (4, .int .u64 (v30 : Int)), (15, .int .i64 (((setE v12 v21 v22 q v30) : Nat) : Int)), (16, .int .u64 (((setP v12 v21 v22 q v30) : Nat) : Int)), (17, .int .u64 (((setT v12 v21 v22 q v30) : Nat) : Int)), (18, .bool (decide (0 < (setP v12 v21 v22 q v30)))), (85, .bool false)] (by kernel_rfl) rfl ?_
            refine GL.k rfl hK67 (fun _ _ h => h) ?_
            refine G.no rfl ?_
            refine G.skipK hK65 (fun _ _ h => h) ?_
            refine G.seqK fun K69 hK70 => ?_
            refine G.region ?_
            refine GL.run (j := 3) 3 [1, 3, 15, 16, 17, 18, 103] [(1, .int .u64 (v21 : Int)), (3, .int .u64 (v22 : Int)), (15, .int .i64 (((setE v12 v21 v22 q v30) : Nat) : Int)), (16, .int .u64 (((setP v12 v21 v22 q v30) : Nat) : Int)), (17, .int .u64 (((setT v12 v21 v22 q v30) : Nat) : Int)), (18, .bool (decide (0 < (setP v12 v21 v22 q v30)))), (103, .bool ((((setE v12 v21 v22 q v30) : Nat) : Int) == 17))] (by kernel_rfl) rfl ?_
            cases hb71 : ((((setE v12 v21 v22 q v30) : Nat) : Int) == 17)
            · skip
              have hb71f := ne_of_beq_false hb71
              refine GL.run (j := 7) 4 [1, 3, 16, 17, 18, 107] [(1, .int .u64 (v21 : Int)), (3, .int .u64 (v22 : Int)), (16, .int .u64 (((setP v12 v21 v22 q v30) : Nat) : Int)), (17, .int .u64 (((setT v12 v21 v22 q v30) : Nat) : Int)), (18, .bool (decide (0 < (setP v12 v21 v22 q v30)))), (107, .bool ((((setE v12 v21 v22 q v30) : Nat) : Int) == 1))] (by kernel_rfl) rfl ?_
              cases hb72 : ((((setE v12 v21 v22 q v30) : Nat) : Int) == 1)
              · skip
                have hb72f := ne_of_beq_false hb72
                refine GL.run (j := 20) 13 [10] [(10, .bool false)] (by kernel_rfl) rfl ?_
                refine GL.k rfl hK70 (fun _ _ h => h) ?_
                refine G.ret ?_
                intro F_ hF_ hM_
                refine hRet _ _ (bodyPost_1 rfl (RV.tmp rfl) ?_ F_ hF_ hM_)
                exfalso
                omega
              · skip
                have hb72f := eq_of_beq hb72
                refine GL.run (j := 12) 5 [3, 17, 18, 112] [(3, .int .u64 (v22 : Int)), (17, .int .u64 (((setT v12 v21 v22 q v30) : Nat) : Int)), (18, .bool (decide (0 < (setP v12 v21 v22 q v30)))), (112, .bool ((((setP v12 v21 v22 q v30) : Nat) : Int) == (v21 : Int)))] (by kernel_rfl) rfl ?_
                cases hb73 : ((((setP v12 v21 v22 q v30) : Nat) : Int) == (v21 : Int))
                · skip
                  have hb73f := ne_of_beq_false hb73
                  refine GL.run (j := 20) 8 [10] [(10, .bool false)] (by kernel_rfl) rfl ?_
                  refine GL.k rfl hK70 (fun _ _ h => h) ?_
                  refine G.ret ?_
                  intro F_ hF_ hM_
                  refine hRet _ _ (bodyPost_1 rfl (RV.tmp rfl) ?_ F_ hF_ hM_)
                  exfalso
                  omega
                · skip
                  have hb73f := eq_of_beq hb73
                  refine GL.run (j := 17) 5 [18, 117] [(18, .bool (decide (0 < (setP v12 v21 v22 q v30)))), (117, .bool ((((setT v12 v21 v22 q v30) : Nat) : Int) == (v22 : Int)))] (by kernel_rfl) rfl ?_
                  cases hb74 : ((((setT v12 v21 v22 q v30) : Nat) : Int) == (v22 : Int))
                  · skip
                    have hb74f := ne_of_beq_false hb74
                    refine GL.run (j := 20) 3 [10] [(10, .bool false)] (by kernel_rfl) rfl ?_
                    refine GL.k rfl hK70 (fun _ _ h => h) ?_
                    refine G.ret ?_
                    intro F_ hF_ hM_
                    refine hRet _ _ (bodyPost_1 rfl (RV.tmp rfl) ?_ F_ hF_ hM_)
                    exfalso
                    omega
                  · skip
                    have hb74f := eq_of_beq hb74
                    refine GL.run (j := 20) 3 [10] [(10, .bool (decide (0 < (setP v12 v21 v22 q v30))))] (by kernel_rfl) rfl ?_
                    refine GL.k rfl hK70 (fun _ _ h => h) ?_
                    refine G.ret ?_
                    intro F_ hF_ hM_
                    refine hRet _ _ (bodyPost_1 rfl (RV.tmp rfl) ?_ F_ hF_ hM_)
                    cases hb75 : (decide (0 < (setP v12 v21 v22 q v30)))
                    · skip
                      have hb75f := of_decide_eq_false hb75
                      exfalso
                      omega
                    · skip
                      have hb75f := of_decide_eq_true hb75
                      exact ⟨rfl, H62.sub (List.nil_sublist _)⟩
            · skip
              have hb71f := eq_of_beq hb71
              refine GL.run (j := 12) 9 [3, 17, 18, 112] [(3, .int .u64 (v22 : Int)), (17, .int .u64 (((setT v12 v21 v22 q v30) : Nat) : Int)), (18, .bool (decide (0 < (setP v12 v21 v22 q v30)))), (112, .bool ((((setP v12 v21 v22 q v30) : Nat) : Int) == (v21 : Int)))] (by kernel_rfl) rfl ?_
              cases hb76 : ((((setP v12 v21 v22 q v30) : Nat) : Int) == (v21 : Int))
              · skip
                have hb76f := ne_of_beq_false hb76
                refine GL.run (j := 20) 8 [10] [(10, .bool false)] (by kernel_rfl) rfl ?_
                refine GL.k rfl hK70 (fun _ _ h => h) ?_
                refine G.ret ?_
                intro F_ hF_ hM_
                refine hRet _ _ (bodyPost_1 rfl (RV.tmp rfl) ?_ F_ hF_ hM_)
                exfalso
                omega
              · skip
                have hb76f := eq_of_beq hb76
                refine GL.run (j := 17) 5 [18, 117] [(18, .bool (decide (0 < (setP v12 v21 v22 q v30)))), (117, .bool ((((setT v12 v21 v22 q v30) : Nat) : Int) == (v22 : Int)))] (by kernel_rfl) rfl ?_
                cases hb77 : ((((setT v12 v21 v22 q v30) : Nat) : Int) == (v22 : Int))
                · skip
                  have hb77f := ne_of_beq_false hb77
                  refine GL.run (j := 20) 3 [10] [(10, .bool false)] (by kernel_rfl) rfl ?_
                  refine GL.k rfl hK70 (fun _ _ h => h) ?_
                  refine G.ret ?_
                  intro F_ hF_ hM_
                  refine hRet _ _ (bodyPost_1 rfl (RV.tmp rfl) ?_ F_ hF_ hM_)
                  exfalso
                  omega
                · skip
                  have hb77f := eq_of_beq hb77
                  refine GL.run (j := 20) 3 [10] [(10, .bool (decide (0 < (setP v12 v21 v22 q v30))))] (by kernel_rfl) rfl ?_
                  refine GL.k rfl hK70 (fun _ _ h => h) ?_
                  refine G.ret ?_
                  intro F_ hF_ hM_
                  refine hRet _ _ (bodyPost_1 rfl (RV.tmp rfl) ?_ F_ hF_ hM_)
                  cases hb78 : (decide (0 < (setP v12 v21 v22 q v30)))
                  · skip
                    have hb78f := of_decide_eq_false hb78
                    exfalso
                    omega
                  · skip
                    have hb78f := of_decide_eq_true hb78
                    exact ⟨rfl, H62.sub (List.nil_sublist _)⟩
          · skip
            have hb68f := of_decide_eq_true hb68
            refine GL.run (j := 8) 4 [1, 2, 3, 4, 15, 16, 17, 18, 85] [(1, .int .u64 (v21 : Int)), (2, .int .u64 (q : Int)), (3, .int .u64 (v22 : Int)), (4, .int .u64 (v30 : Int)), (15, .int .i64 (((setE v12 v21 v22 q v30) : Nat) : Int)), (16, .int .u64 (((setP v12 v21 v22 q v30) : Nat) : Int)), (17, .int .u64 (((setT v12 v21 v22 q v30) : Nat) : Int)), (18, .bool (decide (0 < (setP v12 v21 v22 q v30)))), (85, .bool (decide ((q : Int) ≤ (((highV v12 v21) : Nat) : Int))))] (by kernel_rfl) rfl ?_
            refine GL.k rfl hK67 (fun _ _ h => h) ?_
            cases hb79 : (decide ((q : Int) ≤ (((highV v12 v21) : Nat) : Int)))
            · skip
              have hb79f := of_decide_eq_false hb79
              refine G.no rfl ?_
              refine G.skipK hK65 (fun _ _ h => h) ?_
              refine G.seqK fun K80 hK81 => ?_
              refine G.region ?_
              refine GL.run (j := 3) 3 [1, 3, 15, 16, 17, 18, 103] [(1, .int .u64 (v21 : Int)), (3, .int .u64 (v22 : Int)), (15, .int .i64 (((setE v12 v21 v22 q v30) : Nat) : Int)), (16, .int .u64 (((setP v12 v21 v22 q v30) : Nat) : Int)), (17, .int .u64 (((setT v12 v21 v22 q v30) : Nat) : Int)), (18, .bool (decide (0 < (setP v12 v21 v22 q v30)))), (103, .bool ((((setE v12 v21 v22 q v30) : Nat) : Int) == 17))] (by kernel_rfl) rfl ?_
              cases hb82 : ((((setE v12 v21 v22 q v30) : Nat) : Int) == 17)
              · skip
                have hb82f := ne_of_beq_false hb82
                refine GL.run (j := 7) 4 [1, 3, 16, 17, 18, 107] [(1, .int .u64 (v21 : Int)), (3, .int .u64 (v22 : Int)), (16, .int .u64 (((setP v12 v21 v22 q v30) : Nat) : Int)), (17, .int .u64 (((setT v12 v21 v22 q v30) : Nat) : Int)), (18, .bool (decide (0 < (setP v12 v21 v22 q v30)))), (107, .bool ((((setE v12 v21 v22 q v30) : Nat) : Int) == 1))] (by kernel_rfl) rfl ?_
                cases hb83 : ((((setE v12 v21 v22 q v30) : Nat) : Int) == 1)
                · skip
                  have hb83f := ne_of_beq_false hb83
                  refine GL.run (j := 20) 13 [10] [(10, .bool false)] (by kernel_rfl) rfl ?_
                  refine GL.k rfl hK81 (fun _ _ h => h) ?_
                  refine G.ret ?_
                  intro F_ hF_ hM_
                  refine hRet _ _ (bodyPost_1 rfl (RV.tmp rfl) ?_ F_ hF_ hM_)
                  exfalso
                  omega
                · skip
                  have hb83f := eq_of_beq hb83
                  refine GL.run (j := 12) 5 [3, 17, 18, 112] [(3, .int .u64 (v22 : Int)), (17, .int .u64 (((setT v12 v21 v22 q v30) : Nat) : Int)), (18, .bool (decide (0 < (setP v12 v21 v22 q v30)))), (112, .bool ((((setP v12 v21 v22 q v30) : Nat) : Int) == (v21 : Int)))] (by kernel_rfl) rfl ?_
                  cases hb84 : ((((setP v12 v21 v22 q v30) : Nat) : Int) == (v21 : Int))
                  · skip
                    have hb84f := ne_of_beq_false hb84
                    refine GL.run (j := 20) 8 [10] [(10, .bool false)] (by kernel_rfl) rfl ?_
                    refine GL.k rfl hK81 (fun _ _ h => h) ?_
                    refine G.ret ?_
                    intro F_ hF_ hM_
                    refine hRet _ _ (bodyPost_1 rfl (RV.tmp rfl) ?_ F_ hF_ hM_)
                    exfalso
                    omega
                  · skip
                    have hb84f := eq_of_beq hb84
                    refine GL.run (j := 17) 5 [18, 117] [(18, .bool (decide (0 < (setP v12 v21 v22 q v30)))), (117, .bool ((((setT v12 v21 v22 q v30) : Nat) : Int) == (v22 : Int)))] (by kernel_rfl) rfl ?_
                    cases hb85 : ((((setT v12 v21 v22 q v30) : Nat) : Int) == (v22 : Int))
                    · skip
                      have hb85f := ne_of_beq_false hb85
                      refine GL.run (j := 20) 3 [10] [(10, .bool false)] (by kernel_rfl) rfl ?_
                      refine GL.k rfl hK81 (fun _ _ h => h) ?_
                      refine G.ret ?_
                      intro F_ hF_ hM_
                      refine hRet _ _ (bodyPost_1 rfl (RV.tmp rfl) ?_ F_ hF_ hM_)
                      exfalso
                      omega
                    · skip
                      have hb85f := eq_of_beq hb85
                      refine GL.run (j := 20) 3 [10] [(10, .bool (decide (0 < (setP v12 v21 v22 q v30))))] (by kernel_rfl) rfl ?_
                      refine GL.k rfl hK81 (fun _ _ h => h) ?_
                      refine G.ret ?_
                      intro F_ hF_ hM_
                      refine hRet _ _ (bodyPost_1 rfl (RV.tmp rfl) ?_ F_ hF_ hM_)
                      cases hb86 : (decide (0 < (setP v12 v21 v22 q v30)))
                      · skip
                        have hb86f := of_decide_eq_false hb86
                        exfalso
                        omega
                      · skip
                        have hb86f := of_decide_eq_true hb86
                        exact ⟨rfl, H62.sub (List.nil_sublist _)⟩
              · skip
                have hb82f := eq_of_beq hb82
                refine GL.run (j := 12) 9 [3, 17, 18, 112] [(3, .int .u64 (v22 : Int)), (17, .int .u64 (((setT v12 v21 v22 q v30) : Nat) : Int)), (18, .bool (decide (0 < (setP v12 v21 v22 q v30)))), (112, .bool ((((setP v12 v21 v22 q v30) : Nat) : Int) == (v21 : Int)))] (by kernel_rfl) rfl ?_
                cases hb87 : ((((setP v12 v21 v22 q v30) : Nat) : Int) == (v21 : Int))
                · skip
                  have hb87f := ne_of_beq_false hb87
                  refine GL.run (j := 20) 8 [10] [(10, .bool false)] (by kernel_rfl) rfl ?_
                  refine GL.k rfl hK81 (fun _ _ h => h) ?_
                  refine G.ret ?_
                  intro F_ hF_ hM_
                  refine hRet _ _ (bodyPost_1 rfl (RV.tmp rfl) ?_ F_ hF_ hM_)
                  exfalso
                  omega
                · skip
                  have hb87f := eq_of_beq hb87
                  refine GL.run (j := 17) 5 [18, 117] [(18, .bool (decide (0 < (setP v12 v21 v22 q v30)))), (117, .bool ((((setT v12 v21 v22 q v30) : Nat) : Int) == (v22 : Int)))] (by kernel_rfl) rfl ?_
                  cases hb88 : ((((setT v12 v21 v22 q v30) : Nat) : Int) == (v22 : Int))
                  · skip
                    have hb88f := ne_of_beq_false hb88
                    refine GL.run (j := 20) 3 [10] [(10, .bool false)] (by kernel_rfl) rfl ?_
                    refine GL.k rfl hK81 (fun _ _ h => h) ?_
                    refine G.ret ?_
                    intro F_ hF_ hM_
                    refine hRet _ _ (bodyPost_1 rfl (RV.tmp rfl) ?_ F_ hF_ hM_)
                    exfalso
                    omega
                  · skip
                    have hb88f := eq_of_beq hb88
                    refine GL.run (j := 20) 3 [10] [(10, .bool (decide (0 < (setP v12 v21 v22 q v30))))] (by kernel_rfl) rfl ?_
                    refine GL.k rfl hK81 (fun _ _ h => h) ?_
                    refine G.ret ?_
                    intro F_ hF_ hM_
                    refine hRet _ _ (bodyPost_1 rfl (RV.tmp rfl) ?_ F_ hF_ hM_)
                    cases hb89 : (decide (0 < (setP v12 v21 v22 q v30)))
                    · skip
                      have hb89f := of_decide_eq_false hb89
                      exfalso
                      omega
                    · skip
                      have hb89f := of_decide_eq_true hb89
                      exact ⟨rfl, H62.sub (List.nil_sublist _)⟩
            · skip
              have hb79f := of_decide_eq_true hb79
              refine G.yes rfl ?_
              refine G.seqK fun K90 hK91 => ?_
              refine G.region ?_
              refine GL.run (j := 3) 3 [2, 4, 16, 17, 18, 88] [(2, .int .u64 (q : Int)), (4, .int .u64 (v30 : Int)), (16, .int .u64 (((setP v12 v21 v22 q v30) : Nat) : Int)), (17, .int .u64 (((setT v12 v21 v22 q v30) : Nat) : Int)), (18, .bool (decide (0 < (setP v12 v21 v22 q v30)))), (88, .bool ((((setE v12 v21 v22 q v30) : Nat) : Int) == 0))] (by kernel_rfl) rfl ?_
              cases hb92 : ((((setE v12 v21 v22 q v30) : Nat) : Int) == 0)
              · skip
                have hb92f := ne_of_beq_false hb92
                refine GL.run (j := 16) 13 [10] [(10, .bool false)] (by kernel_rfl) rfl ?_
                refine GL.k rfl hK91 (fun _ _ h => h) ?_
                refine G.ret ?_
                intro F_ hF_ hM_
                refine hRet _ _ (bodyPost_1 rfl (RV.tmp rfl) ?_ F_ hF_ hM_)
                exfalso
                omega
              · skip
                have hb92f := eq_of_beq hb92
                refine GL.run (j := 8) 5 [4, 17, 18, 93] [(4, .int .u64 (v30 : Int)), (17, .int .u64 (((setT v12 v21 v22 q v30) : Nat) : Int)), (18, .bool (decide (0 < (setP v12 v21 v22 q v30)))), (93, .bool ((((setP v12 v21 v22 q v30) : Nat) : Int) == (q : Int)))] (by kernel_rfl) rfl ?_
                cases hb93 : ((((setP v12 v21 v22 q v30) : Nat) : Int) == (q : Int))
                · skip
                  have hb93f := ne_of_beq_false hb93
                  refine GL.run (j := 16) 8 [10] [(10, .bool false)] (by kernel_rfl) rfl ?_
                  refine GL.k rfl hK91 (fun _ _ h => h) ?_
                  refine G.ret ?_
                  intro F_ hF_ hM_
                  refine hRet _ _ (bodyPost_1 rfl (RV.tmp rfl) ?_ F_ hF_ hM_)
                  exfalso
                  omega
                · skip
                  have hb93f := eq_of_beq hb93
                  refine GL.run (j := 13) 5 [18, 98] [(18, .bool (decide (0 < (setP v12 v21 v22 q v30)))), (98, .bool ((((setT v12 v21 v22 q v30) : Nat) : Int) == (v30 : Int)))] (by kernel_rfl) rfl ?_
                  cases hb94 : ((((setT v12 v21 v22 q v30) : Nat) : Int) == (v30 : Int))
                  · skip
                    have hb94f := ne_of_beq_false hb94
                    refine GL.run (j := 16) 3 [10] [(10, .bool false)] (by kernel_rfl) rfl ?_
                    refine GL.k rfl hK91 (fun _ _ h => h) ?_
                    refine G.ret ?_
                    intro F_ hF_ hM_
                    refine hRet _ _ (bodyPost_1 rfl (RV.tmp rfl) ?_ F_ hF_ hM_)
                    exfalso
                    omega
                  · skip
                    have hb94f := eq_of_beq hb94
                    refine GL.run (j := 16) 3 [10] [(10, .bool (decide (0 < (setP v12 v21 v22 q v30))))] (by kernel_rfl) rfl ?_
                    refine GL.k rfl hK91 (fun _ _ h => h) ?_
                    refine G.ret ?_
                    intro F_ hF_ hM_
                    refine hRet _ _ (bodyPost_1 rfl (RV.tmp rfl) ?_ F_ hF_ hM_)
                    cases hb95 : (decide (0 < (setP v12 v21 v22 q v30)))
                    · skip
                      have hb95f := of_decide_eq_false hb95
                      exfalso
                      omega
                    · skip
                      have hb95f := of_decide_eq_true hb95
                      exact ⟨rfl, H62.sub (List.nil_sublist _)⟩
        · skip
          have hb53f := of_decide_eq_true hb53
          refine G.yes rfl ?_
          refine G.seqK fun K96 hK97 => ?_
          refine G.region ?_
          refine GL.run (j := 1) 1 [10] [(10, .bool false)] (by kernel_rfl) rfl ?_
          refine GL.k rfl hK97 (fun _ _ h => h) ?_
          refine G.ret ?_
          intro F_ hF_ hM_
          refine hRet _ _ (bodyPost_1 rfl (RV.tmp rfl) ?_ F_ hF_ hM_)
          exfalso
          omega
      · skip
        have hb52f := of_decide_eq_true hb52
        refine GL.run (j := 16) 4 [1, 2, 3, 4, 11, 13, 14, 67] [(1, .int .u64 (v21 : Int)), (2, .int .u64 (q : Int)), (3, .int .u64 (v22 : Int)), (4, .int .u64 (v30 : Int)), (11, .pointer (some ⟨p14, 0, none⟩)), (13, .int .u64 (((lowV v12 v21) : Nat) : Int)), (14, .int .u64 (((highV v12 v21) : Nat) : Int)), (67, .bool true)] (by kernel_rfl) rfl ?_
        refine GL.k rfl hK49 (fun _ _ h => h) ?_
        refine G.yes rfl ?_
        refine G.seqK fun K98 hK99 => ?_
        refine G.region ?_
        refine GL.run (j := 1) 1 [10] [(10, .bool false)] (by kernel_rfl) rfl ?_
        refine GL.k rfl hK99 (fun _ _ h => h) ?_
        refine G.ret ?_
        intro F_ hF_ hM_
        refine hRet _ _ (bodyPost_1 rfl (RV.tmp rfl) ?_ F_ hF_ hM_)
        exfalso
        omega
    · skip
      have hb51f := of_decide_eq_true hb51
      refine GL.run (j := 16) 9 [1, 2, 3, 4, 11, 13, 14, 67] [(1, .int .u64 (v21 : Int)), (2, .int .u64 (q : Int)), (3, .int .u64 (v22 : Int)), (4, .int .u64 (v30 : Int)), (11, .pointer (some ⟨p14, 0, none⟩)), (13, .int .u64 (((lowV v12 v21) : Nat) : Int)), (14, .int .u64 (((highV v12 v21) : Nat) : Int)), (67, .bool true)] (by kernel_rfl) rfl ?_
      refine GL.k rfl hK49 (fun _ _ h => h) ?_
      refine G.yes rfl ?_
      refine G.seqK fun K100 hK101 => ?_
      refine G.region ?_
      refine GL.run (j := 1) 1 [10] [(10, .bool false)] (by kernel_rfl) rfl ?_
      refine GL.k rfl hK101 (fun _ _ h => h) ?_
      refine G.ret ?_
      intro F_ hF_ hM_
      refine hRet _ _ (bodyPost_1 rfl (RV.tmp rfl) ?_ F_ hF_ hM_)
      exfalso
      omega
  · skip
    have hb50f := of_decide_eq_true hb50
    refine GL.run (j := 16) 13 [1, 2, 3, 4, 11, 13, 14, 67] [(1, .int .u64 (v21 : Int)), (2, .int .u64 (q : Int)), (3, .int .u64 (v22 : Int)), (4, .int .u64 (v30 : Int)), (11, .pointer (some ⟨p14, 0, none⟩)), (13, .int .u64 (((lowV v12 v21) : Nat) : Int)), (14, .int .u64 (((highV v12 v21) : Nat) : Int)), (67, .bool true)] (by kernel_rfl) rfl ?_
    refine GL.k rfl hK49 (fun _ _ h => h) ?_
    refine G.yes rfl ?_
    refine G.seqK fun K102 hK103 => ?_
    refine G.region ?_
    refine GL.run (j := 1) 1 [10] [(10, .bool false)] (by kernel_rfl) rfl ?_
    refine GL.k rfl hK103 (fun _ _ h => h) ?_
    refine G.ret ?_
    intro F_ hF_ hM_
    refine hRet _ _ (bodyPost_1 rfl (RV.tmp rfl) ?_ F_ hF_ hM_)
    exfalso
    omega
end Go.Proofs.Ytljfofnpjmlobaa
