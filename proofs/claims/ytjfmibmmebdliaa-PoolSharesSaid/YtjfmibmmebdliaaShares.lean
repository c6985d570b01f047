/- Burnt in parts tokens bring no more than at once: the walk. -/
import Derived.Test.YtjfmibmmebdliaaLives
namespace Go.Proofs.Ytjfmibmmebdliaa
open Go.RowKit
theorem sh_ok {c i a : Nat} (hc : c ≤ MX) (hi : i ≤ MX) (ha : 0 < a) (hai : a ≤ i) : shE c i a = 0 ∧ shV c i a = c * a / i ∧ shI c i a = i - a := by
  have hMX : MX = 4611686018427387904 := rfl
  have hq : c * a / i ≤ c := Nat.le_trans (Nat.div_le_div_right (Nat.mul_le_mul_left c hai)) (Nat.le_of_eq (Nat.mul_div_cancel _ (by omega)))
  obtain ⟨e1, e2⟩ := part_ok (a := c) (u := a) (d := i) (m := false) (by omega) (by omega) (by rw [partQ_down]; omega)
  have e : shE c i a = 0 := by rw [shE, if_neg (by omega), if_neg (by omega), e1]
  exact ⟨e, by rw [shV, if_neg (by omega), if_neg (by omega), e2, partQ_down], by rw [shI, if_pos e]⟩
/-- In parts no more than at once, and but less than one less. -/
theorem shares {c i a b : Nat} (ha : 0 < a) (hb : 0 < b) (hab : a + b ≤ i) : c * a / i + (c - c * a / i) * b / (i - a) ≤ c * (a + b) / i ∧ c * (a + b) / i ≤ c * a / i + (c - c * a / i) * b / (i - a) + 1 := by
  have hi : 0 < i := by omega
  have hd : 0 < i - a := by omega
  have h1 := Nat.div_add_mod' (c * a) i
  have h1r := Nat.mod_lt (c * a) hi
  generalize hx : c * a / i = x at *
  generalize hr : c * a % i = r at *
  have h2 := Nat.div_mul_le_self ((c - x) * b) (i - a)
  have h3 := Nat.lt_div_mul_add hd (a := (c - x) * b)
  generalize hy : (c - x) * b / (i - a) = y at *
  have h4 := Nat.div_mul_le_self (c * (a + b)) i
  generalize hz : c * (a + b) / i = z at *
  have hxc : x ≤ c := by rw [← hx]; exact Nat.le_trans (Nat.div_le_div_right (Nat.mul_le_mul_left c (show a ≤ i by omega))) (Nat.le_of_eq (Nat.mul_div_cancel _ hi))
  -- (c - x) * i = c * (i - a) + r
  obtain ⟨d, rfl⟩ : ∃ d, i = a + d := ⟨i - a, by omega⟩
  rw [Nat.add_sub_cancel_left] at *
  obtain ⟨e, rfl⟩ : ∃ e, c = x + e := ⟨c - x, by omega⟩
  rw [Nat.add_sub_cancel_left] at *
  have k1 : e * (a + d) = (x + e) * d + r := by
    have := h1
    rw [Nat.mul_add, Nat.add_mul, Nat.add_mul] at *
    omega
  -- y * d ≤ e * b < (y + 1) * d
  have k2 : y * d * (a + d) ≤ e * b * (a + d) := Nat.mul_le_mul_right _ h2
  have k3 : e * b * (a + d) = ((x + e) * b) * d + r * b := by
    rw [Nat.mul_right_comm, k1, Nat.add_mul, Nat.mul_right_comm]
  have k4 : r * b ≤ r * d := Nat.mul_le_mul_left r (by omega)
  have k5 : y * (a + d) ≤ (x + e) * b + r := by
    have : (y * (a + d)) * d ≤ ((x + e) * b + r) * d := by
      rw [Nat.mul_right_comm, Nat.add_mul]
      omega
    exact Nat.le_of_mul_le_mul_right this hd
  have k6 : (x + e) * b < (y + 1) * (a + d) := by
    have h3' : e * b < (y + 1) * d := by
      rw [Nat.add_mul, Nat.one_mul]
      omega
    have h5 : e * b * (a + d) < (y + 1) * d * (a + d) := Nat.mul_lt_mul_of_pos_right h3' hi
    rw [k3] at h5
    have : ((x + e) * b) * d < ((y + 1) * (a + d)) * d := by
      rw [Nat.mul_right_comm (y + 1)]
      omega
    exact Nat.lt_of_mul_lt_mul_right this
  have k7 : (x + e) * (a + b) = (x + e) * a + (x + e) * b := Nat.mul_add _ _ _
  constructor
  · rw [← hz]
    refine (Nat.le_div_iff_mul_le hi).2 ?_
    rw [k7, Nat.add_mul]
    omega
  · have : z * (a + d) < (x + y + 2) * (a + d) := by
      refine Nat.lt_of_le_of_lt h4 ?_
      rw [k7, show x + y + 2 = x + 1 + (y + 1) by omega, Nat.add_mul (x + 1), Nat.add_mul x 1]
      omega
    have := Nat.lt_of_mul_lt_mul_right this
    omega
theorem share_all {c i : Nat} (hi : 0 < i) : c * i / i = c := Nat.mul_div_cancel _ hi
theorem PoolShares_calls (c i a b : Nat) (hc : c < K) (hi : i < K) (ha : a < K) (hb : b < K) (w : World) : Calls Try.prog 3 #[.int .u64 (c : Int), .int .u64 (i : Int), .int .u64 (a : Int), .int .u64 (b : Int)] w fun e w' => e = .returned (.bool true) ∧ Hp w [] [] w' := by
  have hMX : MX = 4611686018427387904 := rfl
  have hK0 : K = 18446744073709551616 := rfl
  have hK40 : K4 = 115792089237316195423570985008687907853269984665640564039457584007913129639936 := rfl
  refine calls_G (args := [.int .u64 (c : Int), .int .u64 (i : Int), .int .u64 (a : Int), .int .u64 (b : Int)]) Try.func3 rfl Try.ntmps3 rfl ?_
  intro Q0 hRet hNor hPan
  have H := Hp.start w
  have H : Hp w [] [] w := H
  refine G.seqK fun K1 hK2 => ?_
  refine G.region ?_
  refine GL.run (j := 1) 1 [0, 1, 2, 3] [(0, .int .u64 (c : Int)), (1, .int .u64 (i : Int)), (2, .int .u64 (a : Int)), (3, .int .u64 (b : Int))] (by kernel_rfl) rfl ?_
  refine GL.k rfl hK2 (fun _ _ h => h) ?_
  refine G.seqK fun K3 hK4 => ?_
  refine G.seqK fun K5 hK6 => ?_
  refine G.region ?_
  refine GL.call (j := 1) (lives_calls w) (by kernel_rfl) rfl (fun e_ w7 hR => ?_)
  obtain ⟨rfl, H9⟩ := hR
  have H8 : Hp w [] [] w7 := H.callNil H9
  refine ⟨_, rfl, [0, 1, 2, 3, 20], [(0, .int .u64 (c : Int)), (1, .int .u64 (i : Int)), (2, .int .u64 (a : Int)), (3, .int .u64 (b : Int)), (20, .bool true)], by kernel_rfl, ?_⟩
  refine GL.run (j := 2) 1 [0, 1, 2, 3, 21] [(0, .int .u64 (c : Int)), (1, .int .u64 (i : Int)), (2, .int .u64 (a : Int)), (3, .int .u64 (b : Int)), (21, .bool false)] (by kernel_rfl) rfl ?_
  refine GL.k rfl hK6 (fun _ _ h => h) ?_
  refine G.no rfl ?_
  refine G.skipK hK4 (fun _ _ h => h) ?_
  refine G.seqK fun K10 hK11 => ?_
  refine G.region ?_
  obtain ⟨v12, hv12⟩ : ∃ v : Nat, v = c % 4611686018427387905 := ⟨_, rfl⟩
  have v12l : v12 ≤ 4611686018427387904 := by omega
  obtain ⟨v13, hv13⟩ : ∃ v : Nat, v = i % 4611686018427387905 := ⟨_, rfl⟩
  have v13l : v13 ≤ 4611686018427387904 := by omega
  refine GL.run (j := 6) 6 [0, 1, 2, 3] [(0, .int .u64 (Int.tmod (c : Int) 4611686018427387905)), (1, .int .u64 (Int.tmod (i : Int) 4611686018427387905)), (2, .int .u64 (a : Int)), (3, .int .u64 (b : Int))] (by kernel_rfl) rfl ?_
  have e14 : (Int.tmod (c : Int) 4611686018427387905) = (v12 : Int) := by rw [hv12]; exact n_rem _ 4611686018427387905
  have e15 : (Int.tmod (i : Int) 4611686018427387905) = (v13 : Int) := by rw [hv13]; exact n_rem _ 4611686018427387905
  refine GL.eq (M' := [(0, .int .u64 (v12 : Int)), (1, .int .u64 (v13 : Int)), (2, .int .u64 (a : Int)), (3, .int .u64 (b : Int))]) (by rw [e14, e15]) ?_
  clear e14 e15
  refine GL.k rfl hK11 (fun _ _ h => h) ?_
  refine G.seqK fun K16 hK17 => ?_
  refine G.seqK fun K18 hK19 => ?_
  refine G.region ?_
  refine GL.run (j := 2) 2 [0, 1, 2, 3, 27] [(0, .int .u64 (v12 : Int)), (1, .int .u64 (v13 : Int)), (2, .int .u64 (a : Int)), (3, .int .u64 (b : Int)), (27, .bool (decide ((v13 : Int) < 2)))] (by kernel_rfl) rfl ?_
  refine GL.k rfl hK19 (fun _ _ h => h) ?_
  cases hb20 : (decide ((v13 : Int) < 2))
  · skip
    have hb20f := of_decide_eq_false hb20
    refine G.no rfl ?_
    refine G.skipK hK17 (fun _ _ h => h) ?_
    refine G.seqK fun K21 hK22 => ?_
    refine G.region ?_
    refine GL.run (j := 3) 3 [0, 1, 3, 28, 30] [(0, .int .u64 (v12 : Int)), (1, .int .u64 (v13 : Int)), (3, .int .u64 (b : Int)), (28, .int .u64 (a : Int)), (30, .int .u64 (IntKind.u64.wrap ((v13 : Int) - 1)))] (by kernel_rfl) rfl ?_
    have e23 : (IntKind.u64.wrap ((v13 : Int) - 1)) = ((v13 - 1 : Nat) : Int) := n_sub (a := v13) (b := 1) (by omega) (by omega)
    refine GL.eq (M' := [(0, .int .u64 (v12 : Int)), (1, .int .u64 (v13 : Int)), (3, .int .u64 (b : Int)), (28, .int .u64 (a : Int)), (30, .int .u64 ((v13 - 1 : Nat) : Int))]) (by rw [e23]) ?_
    clear e23
    have hne : (v13 - 1) ≠ 0 := by omega
    obtain ⟨v24, hv24⟩ : ∃ v : Nat, v = a % (v13 - 1) := ⟨_, rfl⟩
    have v24l : v24 < (v13 - 1) := by rw [hv24]; exact Nat.mod_lt _ (by omega)
    refine GL.sem (j := 4) (run_remN (P := Try.prog) (t := 23) (a := a) (b := (v13 - 1)) hne hv24 _) [0, 1, 3, 31] [(0, .int .u64 (v12 : Int)), (1, .int .u64 (v13 : Int)), (3, .int .u64 (b : Int)), (31, .int .u64 (v24 : Int))] (by kernel_rfl) (by kernel_rfl) rfl ?_
    obtain ⟨g25, hg25⟩ : ∃ v : Nat, v = 1 + v24 := ⟨_, rfl⟩
    refine GL.run (j := 6) 2 [0, 1, 2, 3] [(0, .int .u64 (v12 : Int)), (1, .int .u64 (v13 : Int)), (2, .int .u64 (IntKind.u64.wrap (1 + (v24 : Int)))), (3, .int .u64 (b : Int))] (by kernel_rfl) rfl ?_
    have e26 : (IntKind.u64.wrap (1 + (v24 : Int))) = (g25 : Int) := by rw [hg25]; exact n_add' (a := 1) (b := v24) (by omega)
    refine GL.eq (M' := [(0, .int .u64 (v12 : Int)), (1, .int .u64 (v13 : Int)), (2, .int .u64 (g25 : Int)), (3, .int .u64 (b : Int))]) (by rw [e26]) ?_
    clear e26
    refine GL.k rfl hK22 (fun _ _ h => h) ?_
    refine G.seqK fun K27 hK28 => ?_
    refine G.region ?_
    refine GL.run (j := 4) 4 [0, 1, 2, 33, 36] [(0, .int .u64 (v12 : Int)), (1, .int .u64 (v13 : Int)), (2, .int .u64 (g25 : Int)), (33, .int .u64 (b : Int)), (36, .int .u64 (IntKind.u64.wrap ((v13 : Int) - (g25 : Int))))] (by kernel_rfl) rfl ?_
    have e29 : (IntKind.u64.wrap ((v13 : Int) - (g25 : Int))) = ((v13 - g25 : Nat) : Int) := n_sub (a := v13) (b := g25) (by omega) (by omega)
    refine GL.eq (M' := [(0, .int .u64 (v12 : Int)), (1, .int .u64 (v13 : Int)), (2, .int .u64 (g25 : Int)), (33, .int .u64 (b : Int)), (36, .int .u64 ((v13 - g25 : Nat) : Int))]) (by rw [e29]) ?_
    clear e29
    have hne : (v13 - g25) ≠ 0 := by omega
    obtain ⟨v30, hv30⟩ : ∃ v : Nat, v = b % (v13 - g25) := ⟨_, rfl⟩
    have v30l : v30 < (v13 - g25) := by rw [hv30]; exact Nat.mod_lt _ (by omega)
    refine GL.sem (j := 5) (run_remN (P := Try.prog) (t := 23) (a := b) (b := (v13 - g25)) hne hv30 _) [0, 1, 2, 37] [(0, .int .u64 (v12 : Int)), (1, .int .u64 (v13 : Int)), (2, .int .u64 (g25 : Int)), (37, .int .u64 (v30 : Int))] (by kernel_rfl) (by kernel_rfl) rfl ?_
    obtain ⟨g31, hg31⟩ : ∃ v : Nat, v = 1 + v30 := ⟨_, rfl⟩
    refine GL.run (j := 7) 2 [0, 1, 2, 3] [(0, .int .u64 (v12 : Int)), (1, .int .u64 (v13 : Int)), (2, .int .u64 (g25 : Int)), (3, .int .u64 (IntKind.u64.wrap (1 + (v30 : Int))))] (by kernel_rfl) rfl ?_
    have e32 : (IntKind.u64.wrap (1 + (v30 : Int))) = (g31 : Int) := by rw [hg31]; exact n_add' (a := 1) (b := v30) (by omega)
    refine GL.eq (M' := [(0, .int .u64 (v12 : Int)), (1, .int .u64 (v13 : Int)), (2, .int .u64 (g25 : Int)), (3, .int .u64 (g31 : Int))]) (by rw [e32]) ?_
    clear e32
    refine GL.k rfl hK28 (fun _ _ h => h) ?_
    refine G.seqK fun K33 hK34 => ?_
    refine G.region ?_
    refine GL.run (j := 3) 3 [2, 3, 41] [(2, .int .u64 (g25 : Int)), (3, .int .u64 (g31 : Int)), (41, .agg #[.int .u64 (v12 : Int), .int .u64 (v13 : Int)])] (by kernel_rfl) rfl ?_
    obtain ⟨p35, w36, r37, H38⟩ := H8.alloc (P := Try.prog) 26 [.int .u64 0, .int .u64 0] (by kernel_rfl)
    have H38 : Hp w [] [.blk p35 [.int .u64 0, .int .u64 0] 26] w36 := H38
    refine GL.sem (j := 4) (r37) [2, 3, 9, 41] [(2, .int .u64 (g25 : Int)), (3, .int .u64 (g31 : Int)), (9, .pointer (some ⟨p35, 0, none⟩)), (41, .agg #[.int .u64 (v12 : Int), .int .u64 (v13 : Int)])] (by kernel_rfl) (by kernel_rfl) rfl ?_
    obtain ⟨w39, r40, H41⟩ := H38.stA (P := Try.prog) (o := 0) (vs := [.int .u64 (v12 : Int), .int .u64 (v13 : Int)]) (ty := 26) (m := 2) 0 rfl (by kernel_rfl) rfl (by simp) (by simp [Value.oneCell'])
    have H41 : Hp w [] [.blk p35 [.int .u64 (v12 : Int), .int .u64 (v13 : Int)] 26] w39 := H41
    refine GL.semU (j := 5) r40 [2, 3, 9] [(2, .int .u64 (g25 : Int)), (3, .int .u64 (g31 : Int)), (9, .pointer (some ⟨p35, 0, none⟩))] (by kernel_rfl) rfl rfl rfl ?_
    refine GL.k rfl hK34 (fun _ _ h => h) ?_
    refine G.seqK fun K42 hK43 => ?_
    refine G.region ?_
    refine GL.sem (j := 1) (H41.ldA (o := 0) (ty := 26) (m := 2) (sub := [.int .u64 (v12 : Int), .int .u64 (v13 : Int)]) 0 rfl (by kernel_rfl) rfl rfl) [2, 3, 9, 42] [(2, .int .u64 (g25 : Int)), (3, .int .u64 (g31 : Int)), (9, .pointer (some ⟨p35, 0, none⟩)), (42, .agg #[.int .u64 (v12 : Int), .int .u64 (v13 : Int)])] (by kernel_rfl) (by kernel_rfl) rfl ?_
    obtain ⟨p44, w45, r46, H47⟩ := H41.alloc (P := Try.prog) 26 [.int .u64 0, .int .u64 0] (by kernel_rfl)
    have H47 : Hp w [] [.blk p35 [.int .u64 (v12 : Int), .int .u64 (v13 : Int)] 26, .blk p44 [.int .u64 0, .int .u64 0] 26] w45 := H47
    refine GL.sem (j := 2) (r46) [2, 3, 9, 10, 42] [(2, .int .u64 (g25 : Int)), (3, .int .u64 (g31 : Int)), (9, .pointer (some ⟨p35, 0, none⟩)), (10, .pointer (some ⟨p44, 0, none⟩)), (42, .agg #[.int .u64 (v12 : Int), .int .u64 (v13 : Int)])] (by kernel_rfl) (by kernel_rfl) rfl ?_
    obtain ⟨w48, r49, H50⟩ := H47.stA (P := Try.prog) (o := 0) (vs := [.int .u64 (v12 : Int), .int .u64 (v13 : Int)]) (ty := 26) (m := 2) 1 rfl (by kernel_rfl) rfl (by simp) (by simp [Value.oneCell'])
    have H50 : Hp w [] [.blk p35 [.int .u64 (v12 : Int), .int .u64 (v13 : Int)] 26, .blk p44 [.int .u64 (v12 : Int), .int .u64 (v13 : Int)] 26] w48 := H50
    refine GL.semU (j := 3) r49 [2, 3, 9, 10] [(2, .int .u64 (g25 : Int)), (3, .int .u64 (g31 : Int)), (9, .pointer (some ⟨p35, 0, none⟩)), (10, .pointer (some ⟨p44, 0, none⟩))] (by kernel_rfl) rfl rfl rfl ?_
    refine GL.k rfl hK43 (fun _ _ h => h) ?_
    refine G.seqK fun K51 hK52 => ?_
    refine G.region ?_
    refine GL.run (j := 1) 1 [2, 3, 9, 10, 44] [(2, .int .u64 (g25 : Int)), (3, .int .u64 (g31 : Int)), (9, .pointer (some ⟨p35, 0, none⟩)), (10, .pointer (some ⟨p44, 0, none⟩)), (44, .int .u64 (g25 : Int))] (by kernel_rfl) rfl ?_
    obtain ⟨eE1, eV1, eI1⟩ := sh_ok (c := v12) (i := v13) (a := g25) (by omega) (by omega) (by omega) (by omega)
    have hle1 := shV_le v12 v13 g25
    obtain ⟨x1, hx1⟩ : ∃ v : Nat, v = v12 * g25 / v13 := ⟨_, rfl⟩
    obtain ⟨c1, hc1⟩ : ∃ v : Nat, v = v12 - x1 := ⟨_, rfl⟩
    obtain ⟨i1, hi1⟩ : ∃ v : Nat, v = v13 - g25 := ⟨_, rfl⟩
    rw [eV1, ← hx1] at hle1
    refine GL.call (j := 2) (Burn_calls p35 v12 v13 g25 (by omega) (by omega) (by omega) w48 (H50.blkAt 0 rfl)) (by kernel_rfl) rfl (fun e_ w53 hR => ?_)
    obtain ⟨he_, H55⟩ := hR
    rw [eE1, eV1, ← hx1] at he_
    subst he_
    rw [eV1, eI1, ← hx1, ← hc1, ← hi1] at H55
    have H54 : Hp w [] [.blk p35 [.int .u64 (c1 : Int), .int .u64 (i1 : Int)] 26, .blk p44 [.int .u64 (v12 : Int), .int .u64 (v13 : Int)] 26] w53 := H50.callIn 0 rfl H55
    refine ⟨_, rfl, [2, 3, 9, 10, 45], [(2, .int .u64 (g25 : Int)), (3, .int .u64 (g31 : Int)), (9, .pointer (some ⟨p35, 0, none⟩)), (10, .pointer (some ⟨p44, 0, none⟩)), (45, .tuple #[.int .u64 (x1 : Int), .int .i64 0])], by kernel_rfl, ?_⟩
    refine GL.run (j := 7) 5 [2, 3, 9, 10, 11, 12] [(2, .int .u64 (g25 : Int)), (3, .int .u64 (g31 : Int)), (9, .pointer (some ⟨p35, 0, none⟩)), (10, .pointer (some ⟨p44, 0, none⟩)), (11, .int .u64 (x1 : Int)), (12, .int .i64 0)] (by kernel_rfl) rfl ?_
    refine GL.k rfl hK52 (fun _ _ h => h) ?_
    refine G.seqK fun K56 hK57 => ?_
    refine G.region ?_
    refine GL.run (j := 1) 1 [2, 3, 9, 10, 11, 12, 49] [(2, .int .u64 (g25 : Int)), (3, .int .u64 (g31 : Int)), (9, .pointer (some ⟨p35, 0, none⟩)), (10, .pointer (some ⟨p44, 0, none⟩)), (11, .int .u64 (x1 : Int)), (12, .int .i64 0), (49, .int .u64 (g31 : Int))] (by kernel_rfl) rfl ?_
    obtain ⟨eE2, eV2, eI2⟩ := sh_ok (c := c1) (i := i1) (a := g31) (by omega) (by omega) (by omega) (by omega)
    have hle2 := shV_le c1 i1 g31
    obtain ⟨x2, hx2⟩ : ∃ v : Nat, v = c1 * g31 / i1 := ⟨_, rfl⟩
    obtain ⟨c2, hc2⟩ : ∃ v : Nat, v = c1 - x2 := ⟨_, rfl⟩
    obtain ⟨i2, hi2⟩ : ∃ v : Nat, v = i1 - g31 := ⟨_, rfl⟩
    rw [eV2, ← hx2] at hle2
    refine GL.call (j := 2) (Burn_calls p35 c1 i1 g31 (by omega) (by omega) (by omega) w53 (H54.blkAt 0 rfl)) (by kernel_rfl) rfl (fun e_ w58 hR => ?_)
    obtain ⟨he_, H60⟩ := hR
    rw [eE2, eV2, ← hx2] at he_
    subst he_
    rw [eV2, eI2, ← hx2, ← hc2, ← hi2] at H60
    have H59 : Hp w [] [.blk p35 [.int .u64 (c2 : Int), .int .u64 (i2 : Int)] 26, .blk p44 [.int .u64 (v12 : Int), .int .u64 (v13 : Int)] 26] w58 := H54.callIn 0 rfl H60
    refine ⟨_, rfl, [2, 3, 9, 10, 11, 12, 50], [(2, .int .u64 (g25 : Int)), (3, .int .u64 (g31 : Int)), (9, .pointer (some ⟨p35, 0, none⟩)), (10, .pointer (some ⟨p44, 0, none⟩)), (11, .int .u64 (x1 : Int)), (12, .int .i64 0), (50, .tuple #[.int .u64 (x2 : Int), .int .i64 0])], by kernel_rfl, ?_⟩
    refine GL.run (j := 7) 5 [2, 3, 9, 10, 11, 12, 13, 14] [(2, .int .u64 (g25 : Int)), (3, .int .u64 (g31 : Int)), (9, .pointer (some ⟨p35, 0, none⟩)), (10, .pointer (some ⟨p44, 0, none⟩)), (11, .int .u64 (x1 : Int)), (12, .int .i64 0), (13, .int .u64 (x2 : Int)), (14, .int .i64 0)] (by kernel_rfl) rfl ?_
    refine GL.k rfl hK57 (fun _ _ h => h) ?_
    refine G.seqK fun K61 hK62 => ?_
    refine G.region ?_
    refine GL.run (j := 3) 3 [9, 10, 11, 12, 13, 14, 56] [(9, .pointer (some ⟨p35, 0, none⟩)), (10, .pointer (some ⟨p44, 0, none⟩)), (11, .int .u64 (x1 : Int)), (12, .int .i64 0), (13, .int .u64 (x2 : Int)), (14, .int .i64 0), (56, .int .u64 (IntKind.u64.wrap ((g25 : Int) + (g31 : Int))))] (by kernel_rfl) rfl ?_
    have e63 : (IntKind.u64.wrap ((g25 : Int) + (g31 : Int))) = ((g25 + g31 : Nat) : Int) := n_add' (a := g25) (b := g31) (by omega)
    refine GL.eq (M' := [(9, .pointer (some ⟨p35, 0, none⟩)), (10, .pointer (some ⟨p44, 0, none⟩)), (11, .int .u64 (x1 : Int)), (12, .int .i64 0), (13, .int .u64 (x2 : Int)), (14, .int .i64 0), (56, .int .u64 ((g25 + g31 : Nat) : Int))]) (by rw [e63]) ?_
    clear e63
    obtain ⟨eE3, eV3, eI3⟩ := sh_ok (c := v12) (i := v13) (a := g25 + g31) (by omega) (by omega) (by omega) (by omega)
    have hle3 := shV_le v12 v13 (g25 + g31)
    obtain ⟨x3, hx3⟩ : ∃ v : Nat, v = v12 * (g25 + g31) / v13 := ⟨_, rfl⟩
    obtain ⟨c3, hc3⟩ : ∃ v : Nat, v = v12 - x3 := ⟨_, rfl⟩
    obtain ⟨i3, hi3⟩ : ∃ v : Nat, v = v13 - (g25 + g31) := ⟨_, rfl⟩
    rw [eV3, ← hx3] at hle3
    refine GL.call (j := 4) (Burn_calls p44 v12 v13 (g25 + g31) (by omega) (by omega) (by omega) w58 (H59.blkAt 1 rfl)) (by kernel_rfl) rfl (fun e_ w64 hR => ?_)
    obtain ⟨he_, H66⟩ := hR
    rw [eE3, eV3, ← hx3] at he_
    subst he_
    rw [eV3, eI3, ← hx3, ← hc3, ← hi3] at H66
    have H65 : Hp w [] [.blk p35 [.int .u64 (c2 : Int), .int .u64 (i2 : Int)] 26, .blk p44 [.int .u64 (c3 : Int), .int .u64 (i3 : Int)] 26] w64 := H59.callIn 1 rfl H66
    have hs := shares (c := v12) (i := v13) (a := g25) (b := g31) (by omega) (by omega) (by omega)
    rw [← hx1, ← hc1, ← hi1, ← hx2, ← hx3] at hs
    have hall1 : i2 = 0 → x2 = c1 := fun h => by rw [hx2, show g31 = i1 by omega]; exact share_all (by omega)
    have hall2 : i2 = 0 → x3 = v12 := fun h => by rw [hx3, show g25 + g31 = v13 by omega]; exact share_all (by omega)
    refine ⟨_, rfl, [9, 10, 11, 12, 13, 14, 57], [(9, .pointer (some ⟨p35, 0, none⟩)), (10, .pointer (some ⟨p44, 0, none⟩)), (11, .int .u64 (x1 : Int)), (12, .int .i64 0), (13, .int .u64 (x2 : Int)), (14, .int .i64 0), (57, .tuple #[.int .u64 (x3 : Int), .int .i64 0])], by kernel_rfl, ?_⟩
    refine GL.run (j := 9) 5 [9, 10, 11, 12, 13, 14, 15, 16] [(9, .pointer (some ⟨p35, 0, none⟩)), (10, .pointer (some ⟨p44, 0, none⟩)), (11, .int .u64 (x1 : Int)), (12, .int .i64 0), (13, .int .u64 (x2 : Int)), (14, .int .i64 0), (15, .int .u64 (x3 : Int)), (16, .int .i64 0)] (by kernel_rfl) rfl ?_
    refine GL.k rfl hK62 (fun _ _ h => h) ?_
    refine G.seqK fun K67 hK68 => ?_
    refine G.seqK fun K69 hK70 => ?_
    refine G.region ?_
    refine GL.run (j := 17) 17 [9, 10, 11, 13, 15, 70, 76] [(9, .pointer (some ⟨p35, 0, none⟩)), (10, .pointer (some ⟨p44, 0, none⟩)), (11, .int .u64 (x1 : Int)), (13, .int .u64 (x2 : Int)), (15, .int .u64 (x3 : Int)), (70, .bool false), (76, .bool (decide ((IntKind.u64.wrap ((x1 : Int) + (x2 : Int))) < (x3 : Int))))] (by kernel_rfl) rfl ?_
    have e71 : (IntKind.u64.wrap ((x1 : Int) + (x2 : Int))) = ((x1 + x2 : Nat) : Int) := n_add' (a := x1) (b := x2) (by omega)
    refine GL.eq (M' := [(9, .pointer (some ⟨p35, 0, none⟩)), (10, .pointer (some ⟨p44, 0, none⟩)), (11, .int .u64 (x1 : Int)), (13, .int .u64 (x2 : Int)), (15, .int .u64 (x3 : Int)), (70, .bool false), (76, .bool (decide (((x1 + x2 : Nat) : Int) < (x3 : Int))))]) (by rw [e71]) ?_
    clear e71
    cases hb72 : (decide (((x1 + x2 : Nat) : Int) < (x3 : Int)))
    · skip
      have hb72f := of_decide_eq_false hb72
      refine GL.run (j := 34) 17 [9, 10, 93] [(9, .pointer (some ⟨p35, 0, none⟩)), (10, .pointer (some ⟨p44, 0, none⟩)), (93, .bool (decide ((IntKind.u64.wrap ((x3 : Int) + 1)) < (IntKind.u64.wrap ((x1 : Int) + (x2 : Int))))))] (by kernel_rfl) rfl ?_
      have e73 : (IntKind.u64.wrap ((x1 : Int) + (x2 : Int))) = ((x1 + x2 : Nat) : Int) := n_add' (a := x1) (b := x2) (by omega)
      have e74 : (IntKind.u64.wrap ((x3 : Int) + 1)) = ((x3 + 1 : Nat) : Int) := n_add' (a := x3) (b := 1) (by omega)
      refine GL.eq (M' := [(9, .pointer (some ⟨p35, 0, none⟩)), (10, .pointer (some ⟨p44, 0, none⟩)), (93, .bool (decide (((x3 + 1 : Nat) : Int) < ((x1 + x2 : Nat) : Int))))]) (by rw [e73, e74]) ?_
      clear e73 e74
      cases hb75 : (decide (((x3 + 1 : Nat) : Int) < ((x1 + x2 : Nat) : Int)))
      · skip
        have hb75f := of_decide_eq_false hb75
        refine GL.run (j := 35) 1 [9, 10, 93, 94] [(9, .pointer (some ⟨p35, 0, none⟩)), (10, .pointer (some ⟨p44, 0, none⟩)), (93, .bool false), (94, .pointer (some ⟨p35, 1, none⟩))] (by kernel_rfl) rfl ?_
        refine GL.sem (j := 36) (H65.ld (o := 1) (ty := 23) (v := .int .u64 (i2 : Int)) 0 rfl (by kernel_rfl) rfl) [9, 10, 93, 95] [(9, .pointer (some ⟨p35, 0, none⟩)), (10, .pointer (some ⟨p44, 0, none⟩)), (93, .bool false), (95, .int .u64 (i2 : Int))] (by kernel_rfl) (by kernel_rfl) rfl ?_
        refine GL.run (j := 37) 1 [9, 10, 93, 95, 96] [(9, .pointer (some ⟨p35, 0, none⟩)), (10, .pointer (some ⟨p44, 0, none⟩)), (93, .bool false), (95, .int .u64 (i2 : Int)), (96, .pointer (some ⟨p44, 1, none⟩))] (by kernel_rfl) rfl ?_
        refine GL.sem (j := 38) (H65.ld (o := 1) (ty := 23) (v := .int .u64 (i3 : Int)) 1 rfl (by kernel_rfl) rfl) [9, 10, 93, 95, 97] [(9, .pointer (some ⟨p35, 0, none⟩)), (10, .pointer (some ⟨p44, 0, none⟩)), (93, .bool false), (95, .int .u64 (i2 : Int)), (97, .int .u64 (i3 : Int))] (by kernel_rfl) (by kernel_rfl) rfl ?_
        refine GL.run (j := 40) 2 [9, 10, 99] [(9, .pointer (some ⟨p35, 0, none⟩)), (10, .pointer (some ⟨p44, 0, none⟩)), (99, .bool ((i2 : Int) != (i3 : Int)))] (by kernel_rfl) rfl ?_
        refine GL.k rfl hK70 (fun _ _ h => h) ?_
        cases hb76 : ((i2 : Int) != (i3 : Int))
        · skip
          have hb76f : (i2 : Int) = (i3 : Int) := by simpa using hb76
          refine G.no rfl ?_
          refine G.skipK hK68 (fun _ _ h => h) ?_
          refine G.seqK fun K77 hK78 => ?_
          refine G.seqK fun K79 hK80 => ?_
          refine G.region ?_
          refine GL.run (j := 1) 1 [9, 10, 100] [(9, .pointer (some ⟨p35, 0, none⟩)), (10, .pointer (some ⟨p44, 0, none⟩)), (100, .pointer (some ⟨p35, 1, none⟩))] (by kernel_rfl) rfl ?_
          refine GL.sem (j := 2) (H65.ld (o := 1) (ty := 23) (v := .int .u64 (i2 : Int)) 0 rfl (by kernel_rfl) rfl) [9, 10, 101] [(9, .pointer (some ⟨p35, 0, none⟩)), (10, .pointer (some ⟨p44, 0, none⟩)), (101, .int .u64 (i2 : Int))] (by kernel_rfl) (by kernel_rfl) rfl ?_
          refine GL.run (j := 3) 1 [9, 10, 102] [(9, .pointer (some ⟨p35, 0, none⟩)), (10, .pointer (some ⟨p44, 0, none⟩)), (102, .bool ((i2 : Int) == 0))] (by kernel_rfl) rfl ?_
          refine GL.k rfl hK80 (fun _ _ h => h) ?_
          cases hb81 : ((i2 : Int) == 0)
          · skip
            have hb81f := ne_of_beq_false hb81
            refine G.no rfl ?_
            refine G.skipK hK78 (fun _ _ h => h) ?_
            refine G.seqK fun K82 hK83 => ?_
            refine G.region ?_
            refine GL.run (j := 1) 1 [9, 111] [(9, .pointer (some ⟨p35, 0, none⟩)), (111, .pointer (some ⟨p35, 0, none⟩))] (by kernel_rfl) rfl ?_
            refine GL.sem (j := 2) (H65.ld (o := 0) (ty := 23) (v := .int .u64 (c2 : Int)) 0 rfl (by kernel_rfl) rfl) [9, 112] [(9, .pointer (some ⟨p35, 0, none⟩)), (112, .int .u64 (c2 : Int))] (by kernel_rfl) (by kernel_rfl) rfl ?_
            refine GL.run (j := 3) 1 [9, 17] [(9, .pointer (some ⟨p35, 0, none⟩)), (17, .int .u64 (c2 : Int))] (by kernel_rfl) rfl ?_
            refine GL.k rfl hK83 (fun _ _ h => h) ?_
            refine G.seqK fun K84 hK85 => ?_
            refine G.region ?_
            refine GL.run (j := 1) 1 [9, 17, 114] [(9, .pointer (some ⟨p35, 0, none⟩)), (17, .int .u64 (c2 : Int)), (114, .pointer (some ⟨p35, 1, none⟩))] (by kernel_rfl) rfl ?_
            refine GL.sem (j := 2) (H65.ld (o := 1) (ty := 23) (v := .int .u64 (i2 : Int)) 0 rfl (by kernel_rfl) rfl) [9, 17, 115] [(9, .pointer (some ⟨p35, 0, none⟩)), (17, .int .u64 (c2 : Int)), (115, .int .u64 (i2 : Int))] (by kernel_rfl) (by kernel_rfl) rfl ?_
            obtain ⟨eE4, eV4, eI4⟩ := sh_ok (c := c2) (i := i2) (a := i2) (by omega) (by omega) (by omega) (by omega)
            have hle4 := shV_le c2 i2 i2
            obtain ⟨x4, hx4⟩ : ∃ v : Nat, v = c2 * i2 / i2 := ⟨_, rfl⟩
            obtain ⟨c4, hc4⟩ : ∃ v : Nat, v = c2 - x4 := ⟨_, rfl⟩
            obtain ⟨i4, hi4⟩ : ∃ v : Nat, v = i2 - i2 := ⟨_, rfl⟩
            rw [eV4, ← hx4] at hle4
            refine GL.call (j := 3) (Burn_calls p35 c2 i2 i2 (by omega) (by omega) (by omega) w64 (H65.blkAt 0 rfl)) (by kernel_rfl) rfl (fun e_ w86 hR => ?_)
            obtain ⟨he_, H88⟩ := hR
            rw [eE4, eV4, ← hx4] at he_
            subst he_
            rw [eV4, eI4, ← hx4, ← hc4, ← hi4] at H88
            have H87 : Hp w [] [.blk p35 [.int .u64 (c4 : Int), .int .u64 (i4 : Int)] 26, .blk p44 [.int .u64 (c3 : Int), .int .u64 (i3 : Int)] 26] w86 := H65.callIn 0 rfl H88
            have hall3 : x4 = c2 := by rw [hx4]; exact share_all (by omega)
            refine ⟨_, rfl, [9, 17, 116], [(9, .pointer (some ⟨p35, 0, none⟩)), (17, .int .u64 (c2 : Int)), (116, .tuple #[.int .u64 (x4 : Int), .int .i64 0])], by kernel_rfl, ?_⟩
            refine GL.run (j := 8) 5 [9, 17, 18, 19] [(9, .pointer (some ⟨p35, 0, none⟩)), (17, .int .u64 (c2 : Int)), (18, .int .u64 (x4 : Int)), (19, .int .i64 0)] (by kernel_rfl) rfl ?_
            refine GL.k rfl hK85 (fun _ _ h => h) ?_
            refine G.seqK fun K89 hK90 => ?_
            refine G.region ?_
            refine GL.run (j := 8) 8 [9, 126] [(9, .pointer (some ⟨p35, 0, none⟩)), (126, .bool ((x4 : Int) == (c2 : Int)))] (by kernel_rfl) rfl ?_
            cases hb91 : ((x4 : Int) == (c2 : Int))
            · skip
              have hb91f := ne_of_beq_false hb91
              refine GL.run (j := 13) 5 [8] [(8, .bool false)] (by kernel_rfl) rfl ?_
              refine GL.k rfl hK90 (fun _ _ h => h) ?_
              refine G.ret ?_
              intro F_ hF_ hM_
              refine hRet _ _ (bodyPost_1 rfl (RV.tmp rfl) ?_ F_ hF_ hM_)
              exfalso
              omega
            · skip
              have hb91f := eq_of_beq hb91
              refine GL.sem (j := 9) (H87.ldA (o := 0) (ty := 26) (m := 2) (sub := [.int .u64 (c4 : Int), .int .u64 (i4 : Int)]) 0 rfl (by kernel_rfl) rfl rfl) [126, 127] [(126, .bool true), (127, .agg #[.int .u64 (c4 : Int), .int .u64 (i4 : Int)])] (by kernel_rfl) (by kernel_rfl) rfl ?_
              refine GL.run (j := 10) 1 [126, 127, 128] [(126, .bool true), (127, .agg #[.int .u64 (c4 : Int), .int .u64 (i4 : Int)]), (128, .agg #[.int .u64 0, .int .u64 0])] (by kernel_rfl) rfl ?_
              refine GL.sem (j := 11) (run_st_eql (P := Try.prog) (t := 26) (n := 2) (k := .u64) (x := (.tmp 127)) (y := (.tmp 128)) (by kernel_rfl) [(c4 : Int), (i4 : Int)] [0, 0] rfl rfl _) [126, 129] [(126, .bool true), (129, .bool (decide (([(c4 : Int), (i4 : Int)] : List Int) = [0, 0])))] (by kernel_rfl) (by kernel_rfl) rfl ?_
              refine GL.run (j := 13) 2 [8] [(8, .bool (decide (([(c4 : Int), (i4 : Int)] : List Int) = [0, 0])))] (by kernel_rfl) rfl ?_
              refine GL.k rfl hK90 (fun _ _ h => h) ?_
              refine G.ret ?_
              intro F_ hF_ hM_
              refine hRet _ _ (bodyPost_1 rfl (RV.tmp rfl) ?_ F_ hF_ hM_)
              have hb92 : (decide (([(c4 : Int), (i4 : Int)] : List Int) = [0, 0])) = true := decide_eq_true (by rw [show c4 = 0 by omega, show i4 = 0 by omega]; rfl)
              rw [hb92]
              exact ⟨rfl, H87.sub (List.nil_sublist _)⟩
          · skip
            have hb81f := eq_of_beq hb81
            refine G.yes rfl ?_
            refine G.seqK fun K93 hK94 => ?_
            refine G.region ?_
            refine GL.run (j := 1) 1 [10, 103] [(10, .pointer (some ⟨p44, 0, none⟩)), (103, .pointer (some ⟨p35, 0, none⟩))] (by kernel_rfl) rfl ?_
            refine GL.sem (j := 2) (H65.ld (o := 0) (ty := 23) (v := .int .u64 (c2 : Int)) 0 rfl (by kernel_rfl) rfl) [10, 104] [(10, .pointer (some ⟨p44, 0, none⟩)), (104, .int .u64 (c2 : Int))] (by kernel_rfl) (by kernel_rfl) rfl ?_
            refine GL.run (j := 4) 2 [10, 106] [(10, .pointer (some ⟨p44, 0, none⟩)), (106, .bool ((c2 : Int) == 0))] (by kernel_rfl) rfl ?_
            cases hb95 : ((c2 : Int) == 0)
            · skip
              have hb95f := ne_of_beq_false hb95
              refine GL.run (j := 9) 5 [8] [(8, .bool false)] (by kernel_rfl) rfl ?_
              refine GL.k rfl hK94 (fun _ _ h => h) ?_
              refine G.ret ?_
              intro F_ hF_ hM_
              refine hRet _ _ (bodyPost_1 rfl (RV.tmp rfl) ?_ F_ hF_ hM_)
              exfalso
              omega
            · skip
              have hb95f := eq_of_beq hb95
              refine GL.run (j := 5) 1 [106, 107] [(106, .bool true), (107, .pointer (some ⟨p44, 0, none⟩))] (by kernel_rfl) rfl ?_
              refine GL.sem (j := 6) (H65.ld (o := 0) (ty := 23) (v := .int .u64 (c3 : Int)) 1 rfl (by kernel_rfl) rfl) [106, 108] [(106, .bool true), (108, .int .u64 (c3 : Int))] (by kernel_rfl) (by kernel_rfl) rfl ?_
              refine GL.run (j := 9) 3 [8] [(8, .bool ((c3 : Int) == 0))] (by kernel_rfl) rfl ?_
              refine GL.k rfl hK94 (fun _ _ h => h) ?_
              refine G.ret ?_
              intro F_ hF_ hM_
              refine hRet _ _ (bodyPost_1 rfl (RV.tmp rfl) ?_ F_ hF_ hM_)
              cases hb96 : ((c3 : Int) == 0)
              · skip
                have hb96f := ne_of_beq_false hb96
                exfalso
                omega
              · skip
                have hb96f := eq_of_beq hb96
                exact ⟨rfl, H65.sub (List.nil_sublist _)⟩
        · skip
          have hb76f : (i2 : Int) ≠ (i3 : Int) := by simpa using hb76
          refine G.yes rfl ?_
          refine G.seqK fun K97 hK98 => ?_
          refine G.region ?_
          refine GL.run (j := 1) 1 [8] [(8, .bool false)] (by kernel_rfl) rfl ?_
          refine GL.k rfl hK98 (fun _ _ h => h) ?_
          refine G.ret ?_
          intro F_ hF_ hM_
          refine hRet _ _ (bodyPost_1 rfl (RV.tmp rfl) ?_ F_ hF_ hM_)
          exfalso
          omega
      · skip
        have hb75f := of_decide_eq_true hb75
        refine GL.run (j := 40) 6 [9, 10, 99] [(9, .pointer (some ⟨p35, 0, none⟩)), (10, .pointer (some ⟨p44, 0, none⟩)), (99, .bool true)] (by kernel_rfl) rfl ?_
        refine GL.k rfl hK70 (fun _ _ h => h) ?_
        refine G.yes rfl ?_
        refine G.seqK fun K99 hK100 => ?_
        refine G.region ?_
        refine GL.run (j := 1) 1 [8] [(8, .bool false)] (by kernel_rfl) rfl ?_
        refine GL.k rfl hK100 (fun _ _ h => h) ?_
        refine G.ret ?_
        intro F_ hF_ hM_
        refine hRet _ _ (bodyPost_1 rfl (RV.tmp rfl) ?_ F_ hF_ hM_)
        exfalso
        omega
    · skip
      have hb72f := of_decide_eq_true hb72
      refine GL.run (j := 26) 9 [9, 10, 11, 13, 15, 85] [(9, .pointer (some ⟨p35, 0, none⟩)), (10, .pointer (some ⟨p44, 0, none⟩)), (11, .int .u64 (x1 : Int)), (13, .int .u64 (x2 : Int)), (15, .int .u64 (x3 : Int)), (85, .bool (decide (1 < (IntKind.u64.wrap ((IntKind.u64.wrap ((x3 : Int) - (x1 : Int))) - (x2 : Int))))))] (by kernel_rfl) rfl ?_
      have e101 : (IntKind.u64.wrap ((x3 : Int) - (x1 : Int))) = ((x3 - x1 : Nat) : Int) := n_sub (a := x3) (b := x1) (by omega) (by omega)
      have e102 : (IntKind.u64.wrap (((x3 - x1 : Nat) : Int) - (x2 : Int))) = (((x3 - x1) - x2 : Nat) : Int) := n_sub (a := (x3 - x1)) (b := x2) (by omega) (by omega)
      refine GL.eq (M' := [(9, .pointer (some ⟨p35, 0, none⟩)), (10, .pointer (some ⟨p44, 0, none⟩)), (11, .int .u64 (x1 : Int)), (13, .int .u64 (x2 : Int)), (15, .int .u64 (x3 : Int)), (85, .bool (decide (1 < (((x3 - x1) - x2 : Nat) : Int))))]) (by rw [e101, e102]) ?_
      clear e101 e102
      cases hb103 : (decide (1 < (((x3 - x1) - x2 : Nat) : Int)))
      · skip
        have hb103f := of_decide_eq_false hb103
        refine GL.run (j := 34) 8 [9, 10, 93] [(9, .pointer (some ⟨p35, 0, none⟩)), (10, .pointer (some ⟨p44, 0, none⟩)), (93, .bool (decide ((IntKind.u64.wrap ((x3 : Int) + 1)) < (IntKind.u64.wrap ((x1 : Int) + (x2 : Int))))))] (by kernel_rfl) rfl ?_
        have e104 : (IntKind.u64.wrap ((x1 : Int) + (x2 : Int))) = ((x1 + x2 : Nat) : Int) := n_add' (a := x1) (b := x2) (by omega)
        have e105 : (IntKind.u64.wrap ((x3 : Int) + 1)) = ((x3 + 1 : Nat) : Int) := n_add' (a := x3) (b := 1) (by omega)
        refine GL.eq (M' := [(9, .pointer (some ⟨p35, 0, none⟩)), (10, .pointer (some ⟨p44, 0, none⟩)), (93, .bool (decide (((x3 + 1 : Nat) : Int) < ((x1 + x2 : Nat) : Int))))]) (by rw [e104, e105]) ?_
        clear e104 e105
        cases hb106 : (decide (((x3 + 1 : Nat) : Int) < ((x1 + x2 : Nat) : Int)))
        · skip
          have hb106f := of_decide_eq_false hb106
          refine GL.run (j := 35) 1 [9, 10, 93, 94] [(9, .pointer (some ⟨p35, 0, none⟩)), (10, .pointer (some ⟨p44, 0, none⟩)), (93, .bool false), (94, .pointer (some ⟨p35, 1, none⟩))] (by kernel_rfl) rfl ?_
          refine GL.sem (j := 36) (H65.ld (o := 1) (ty := 23) (v := .int .u64 (i2 : Int)) 0 rfl (by kernel_rfl) rfl) [9, 10, 93, 95] [(9, .pointer (some ⟨p35, 0, none⟩)), (10, .pointer (some ⟨p44, 0, none⟩)), (93, .bool false), (95, .int .u64 (i2 : Int))] (by kernel_rfl) (by kernel_rfl) rfl ?_
          refine GL.run (j := 37) 1 [9, 10, 93, 95, 96] [(9, .pointer (some ⟨p35, 0, none⟩)), (10, .pointer (some ⟨p44, 0, none⟩)), (93, .bool false), (95, .int .u64 (i2 : Int)), (96, .pointer (some ⟨p44, 1, none⟩))] (by kernel_rfl) rfl ?_
          refine GL.sem (j := 38) (H65.ld (o := 1) (ty := 23) (v := .int .u64 (i3 : Int)) 1 rfl (by kernel_rfl) rfl) [9, 10, 93, 95, 97] [(9, .pointer (some ⟨p35, 0, none⟩)), (10, .pointer (some ⟨p44, 0, none⟩)), (93, .bool false), (95, .int .u64 (i2 : Int)), (97, .int .u64 (i3 : Int))] (by kernel_rfl) (by kernel_rfl) rfl ?_
          refine GL.run (j := 40) 2 [9, 10, 99] [(9, .pointer (some ⟨p35, 0, none⟩)), (10, .pointer (some ⟨p44, 0, none⟩)), (99, .bool ((i2 : Int) != (i3 : Int)))] (by kernel_rfl) rfl ?_
          refine GL.k rfl hK70 (fun _ _ h => h) ?_
          cases hb107 : ((i2 : Int) != (i3 : Int))
          · skip
            have hb107f : (i2 : Int) = (i3 : Int) := by simpa using hb107
            refine G.no rfl ?_
            refine G.skipK hK68 (fun _ _ h => h) ?_
            refine G.seqK fun K108 hK109 => ?_
            refine G.seqK fun K110 hK111 => ?_
            refine G.region ?_
            refine GL.run (j := 1) 1 [9, 10, 100] [(9, .pointer (some ⟨p35, 0, none⟩)), (10, .pointer (some ⟨p44, 0, none⟩)), (100, .pointer (some ⟨p35, 1, none⟩))] (by kernel_rfl) rfl ?_
            refine GL.sem (j := 2) (H65.ld (o := 1) (ty := 23) (v := .int .u64 (i2 : Int)) 0 rfl (by kernel_rfl) rfl) [9, 10, 101] [(9, .pointer (some ⟨p35, 0, none⟩)), (10, .pointer (some ⟨p44, 0, none⟩)), (101, .int .u64 (i2 : Int))] (by kernel_rfl) (by kernel_rfl) rfl ?_
            refine GL.run (j := 3) 1 [9, 10, 102] [(9, .pointer (some ⟨p35, 0, none⟩)), (10, .pointer (some ⟨p44, 0, none⟩)), (102, .bool ((i2 : Int) == 0))] (by kernel_rfl) rfl ?_
            refine GL.k rfl hK111 (fun _ _ h => h) ?_
            cases hb112 : ((i2 : Int) == 0)
            · skip
              have hb112f := ne_of_beq_false hb112
              refine G.no rfl ?_
              refine G.skipK hK109 (fun _ _ h => h) ?_
              refine G.seqK fun K113 hK114 => ?_
              refine G.region ?_
              refine GL.run (j := 1) 1 [9, 111] [(9, .pointer (some ⟨p35, 0, none⟩)), (111, .pointer (some ⟨p35, 0, none⟩))] (by kernel_rfl) rfl ?_
              refine GL.sem (j := 2) (H65.ld (o := 0) (ty := 23) (v := .int .u64 (c2 : Int)) 0 rfl (by kernel_rfl) rfl) [9, 112] [(9, .pointer (some ⟨p35, 0, none⟩)), (112, .int .u64 (c2 : Int))] (by kernel_rfl) (by kernel_rfl) rfl ?_
              refine GL.run (j := 3) 1 [9, 17] [(9, .pointer (some ⟨p35, 0, none⟩)), (17, .int .u64 (c2 : Int))] (by kernel_rfl) rfl ?_
              refine GL.k rfl hK114 (fun _ _ h => h) ?_
              refine G.seqK fun K115 hK116 => ?_
              refine G.region ?_
              refine GL.run (j := 1) 1 [9, 17, 114] [(9, .pointer (some ⟨p35, 0, none⟩)), (17, .int .u64 (c2 : Int)), (114, .pointer (some ⟨p35, 1, none⟩))] (by kernel_rfl) rfl ?_
              refine GL.sem (j := 2) (H65.ld (o := 1) (ty := 23) (v := .int .u64 (i2 : Int)) 0 rfl (by kernel_rfl) rfl) [9, 17, 115] [(9, .pointer (some ⟨p35, 0, none⟩)), (17, .int .u64 (c2 : Int)), (115, .int .u64 (i2 : Int))] (by kernel_rfl) (by kernel_rfl) rfl ?_
              obtain ⟨eE4, eV4, eI4⟩ := sh_ok (c := c2) (i := i2) (a := i2) (by omega) (by omega) (by omega) (by omega)
              have hle4 := shV_le c2 i2 i2
              obtain ⟨x4, hx4⟩ : ∃ v : Nat, v = c2 * i2 / i2 := ⟨_, rfl⟩
              obtain ⟨c4, hc4⟩ : ∃ v : Nat, v = c2 - x4 := ⟨_, rfl⟩
              obtain ⟨i4, hi4⟩ : ∃ v : Nat, v = i2 - i2 := ⟨_, rfl⟩
              rw [eV4, ← hx4] at hle4
              refine GL.call (j := 3) (Burn_calls p35 c2 i2 i2 (by omega) (by omega) (by omega) w64 (H65.blkAt 0 rfl)) (by kernel_rfl) rfl (fun e_ w117 hR => ?_)
              obtain ⟨he_, H119⟩ := hR
              rw [eE4, eV4, ← hx4] at he_
              subst he_
              rw [eV4, eI4, ← hx4, ← hc4, ← hi4] at H119
              have H118 : Hp w [] [.blk p35 [.int .u64 (c4 : Int), .int .u64 (i4 : Int)] 26, .blk p44 [.int .u64 (c3 : Int), .int .u64 (i3 : Int)] 26] w117 := H65.callIn 0 rfl H119
              have hall3 : x4 = c2 := by rw [hx4]; exact share_all (by omega)
              refine ⟨_, rfl, [9, 17, 116], [(9, .pointer (some ⟨p35, 0, none⟩)), (17, .int .u64 (c2 : Int)), (116, .tuple #[.int .u64 (x4 : Int), .int .i64 0])], by kernel_rfl, ?_⟩
              refine GL.run (j := 8) 5 [9, 17, 18, 19] [(9, .pointer (some ⟨p35, 0, none⟩)), (17, .int .u64 (c2 : Int)), (18, .int .u64 (x4 : Int)), (19, .int .i64 0)] (by kernel_rfl) rfl ?_
              refine GL.k rfl hK116 (fun _ _ h => h) ?_
              refine G.seqK fun K120 hK121 => ?_
              refine G.region ?_
              refine GL.run (j := 8) 8 [9, 126] [(9, .pointer (some ⟨p35, 0, none⟩)), (126, .bool ((x4 : Int) == (c2 : Int)))] (by kernel_rfl) rfl ?_
              cases hb122 : ((x4 : Int) == (c2 : Int))
              · skip
                have hb122f := ne_of_beq_false hb122
                refine GL.run (j := 13) 5 [8] [(8, .bool false)] (by kernel_rfl) rfl ?_
                refine GL.k rfl hK121 (fun _ _ h => h) ?_
                refine G.ret ?_
                intro F_ hF_ hM_
                refine hRet _ _ (bodyPost_1 rfl (RV.tmp rfl) ?_ F_ hF_ hM_)
                exfalso
                omega
              · skip
                have hb122f := eq_of_beq hb122
                refine GL.sem (j := 9) (H118.ldA (o := 0) (ty := 26) (m := 2) (sub := [.int .u64 (c4 : Int), .int .u64 (i4 : Int)]) 0 rfl (by kernel_rfl) rfl rfl) [126, 127] [(126, .bool true), (127, .agg #[.int .u64 (c4 : Int), .int .u64 (i4 : Int)])] (by kernel_rfl) (by kernel_rfl) rfl ?_
                refine GL.run (j := 10) 1 [126, 127, 128] [(126, .bool true), (127, .agg #[.int .u64 (c4 : Int), .int .u64 (i4 : Int)]), (128, .agg #[.int .u64 0, .int .u64 0])] (by kernel_rfl) rfl ?_
                refine GL.sem (j := 11) (run_st_eql (P := Try.prog) (t := 26) (n := 2) (k := .u64) (x := (.tmp 127)) (y := (.tmp 128)) (by kernel_rfl) [(c4 : Int), (i4 : Int)] [0, 0] rfl rfl _) [126, 129] [(126, .bool true), (129, .bool (decide (([(c4 : Int), (i4 : Int)] : List Int) = [0, 0])))] (by kernel_rfl) (by kernel_rfl) rfl ?_
                refine GL.run (j := 13) 2 [8] [(8, .bool (decide (([(c4 : Int), (i4 : Int)] : List Int) = [0, 0])))] (by kernel_rfl) rfl ?_
                refine GL.k rfl hK121 (fun _ _ h => h) ?_
                refine G.ret ?_
                intro F_ hF_ hM_
                refine hRet _ _ (bodyPost_1 rfl (RV.tmp rfl) ?_ F_ hF_ hM_)
                have hb123 : (decide (([(c4 : Int), (i4 : Int)] : List Int) = [0, 0])) = true := decide_eq_true (by rw [show c4 = 0 by omega, show i4 = 0 by omega]; rfl)
                rw [hb123]
                exact ⟨rfl, H118.sub (List.nil_sublist _)⟩
            · skip
              have hb112f := eq_of_beq hb112
              refine G.yes rfl ?_
              refine G.seqK fun K124 hK125 => ?_
              refine G.region ?_
              refine GL.run (j := 1) 1 [10, 103] [(10, .pointer (some ⟨p44, 0, none⟩)), (103, .pointer (some ⟨p35, 0, none⟩))] (by kernel_rfl) rfl ?_
              refine GL.sem (j := 2) (H65.ld (o := 0) (ty := 23) (v := .int .u64 (c2 : Int)) 0 rfl (by kernel_rfl) rfl) [10, 104] [(10, .pointer (some ⟨p44, 0, none⟩)), (104, .int .u64 (c2 : Int))] (by kernel_rfl) (by kernel_rfl) rfl ?_
              refine GL.run (j := 4) 2 [10, 106] [(10, .pointer (some ⟨p44, 0, none⟩)), (106, .bool ((c2 : Int) == 0))] (by kernel_rfl) rfl ?_
              cases hb126 : ((c2 : Int) == 0)
              · skip
                have hb126f := ne_of_beq_false hb126
                refine GL.run (j := 9) 5 [8] [(8, .bool false)] (by kernel_rfl) rfl ?_
                refine GL.k rfl hK125 (fun _ _ h => h) ?_
                refine G.ret ?_
                intro F_ hF_ hM_
                refine hRet _ _ (bodyPost_1 rfl (RV.tmp rfl) ?_ F_ hF_ hM_)
                exfalso
                omega
              · skip
                have hb126f := eq_of_beq hb126
                refine GL.run (j := 5) 1 [106, 107] [(106, .bool true), (107, .pointer (some ⟨p44, 0, none⟩))] (by kernel_rfl) rfl ?_
                refine GL.sem (j := 6) (H65.ld (o := 0) (ty := 23) (v := .int .u64 (c3 : Int)) 1 rfl (by kernel_rfl) rfl) [106, 108] [(106, .bool true), (108, .int .u64 (c3 : Int))] (by kernel_rfl) (by kernel_rfl) rfl ?_
                refine GL.run (j := 9) 3 [8] [(8, .bool ((c3 : Int) == 0))] (by kernel_rfl) rfl ?_
                refine GL.k rfl hK125 (fun _ _ h => h) ?_
                refine G.ret ?_
                intro F_ hF_ hM_
                refine hRet _ _ (bodyPost_1 rfl (RV.tmp rfl) ?_ F_ hF_ hM_)
                cases hb127 : ((c3 : Int) == 0)
                · skip
                  have hb127f := ne_of_beq_false hb127
                  exfalso
                  omega
                · skip
                  have hb127f := eq_of_beq hb127
                  exact ⟨rfl, H65.sub (List.nil_sublist _)⟩
          · skip
            have hb107f : (i2 : Int) ≠ (i3 : Int) := by simpa using hb107
            refine G.yes rfl ?_
            refine G.seqK fun K128 hK129 => ?_
            refine G.region ?_
            refine GL.run (j := 1) 1 [8] [(8, .bool false)] (by kernel_rfl) rfl ?_
            refine GL.k rfl hK129 (fun _ _ h => h) ?_
            refine G.ret ?_
            intro F_ hF_ hM_
            refine hRet _ _ (bodyPost_1 rfl (RV.tmp rfl) ?_ F_ hF_ hM_)
            exfalso
            omega
        · skip
          have hb106f := of_decide_eq_true hb106
          refine GL.run (j := 40) 6 [9, 10, 99] [(9, .pointer (some ⟨p35, 0, none⟩)), (10, .pointer (some ⟨p44, 0, none⟩)), (99, .bool true)] (by kernel_rfl) rfl ?_
          refine GL.k rfl hK70 (fun _ _ h => h) ?_
          refine G.yes rfl ?_
          refine G.seqK fun K130 hK131 => ?_
          refine G.region ?_
          refine GL.run (j := 1) 1 [8] [(8, .bool false)] (by kernel_rfl) rfl ?_
          refine GL.k rfl hK131 (fun _ _ h => h) ?_
          refine G.ret ?_
          intro F_ hF_ hM_
          refine hRet _ _ (bodyPost_1 rfl (RV.tmp rfl) ?_ F_ hF_ hM_)
          exfalso
          omega
      · skip
        have hb103f := of_decide_eq_true hb103
        refine GL.run (j := 40) 14 [9, 10, 99] [(9, .pointer (some ⟨p35, 0, none⟩)), (10, .pointer (some ⟨p44, 0, none⟩)), (99, .bool true)] (by kernel_rfl) rfl ?_
        refine GL.k rfl hK70 (fun _ _ h => h) ?_
        refine G.yes rfl ?_
        refine G.seqK fun K132 hK133 => ?_
        refine G.region ?_
        refine GL.run (j := 1) 1 [8] [(8, .bool false)] (by kernel_rfl) rfl ?_
        refine GL.k rfl hK133 (fun _ _ h => h) ?_
        refine G.ret ?_
        intro F_ hF_ hM_
        refine hRet _ _ (bodyPost_1 rfl (RV.tmp rfl) ?_ F_ hF_ hM_)
        exfalso
        omega
  · skip
    have hb20f := of_decide_eq_true hb20
    refine G.yes rfl ?_
    refine G.seqK fun K134 hK135 => ?_
    refine G.region ?_
    refine GL.run (j := 1) 1 [8] [(8, .bool true)] (by kernel_rfl) rfl ?_
    refine GL.k rfl hK135 (fun _ _ h => h) ?_
    refine G.ret ?_
    intro F_ hF_ hM_
    refine hRet _ _ (bodyPost_1 rfl (RV.tmp rfl) ?_ F_ hF_ hM_)
    exact ⟨rfl, H8.sub (List.nil_sublist _)⟩
end Go.Proofs.Ytjfmibmmebdliaa
