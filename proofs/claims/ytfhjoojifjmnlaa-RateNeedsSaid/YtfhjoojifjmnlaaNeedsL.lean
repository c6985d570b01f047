/- What is needed is enough, and one less isn't: the walk. -/
import Derived.Test.YtfhjoojifjmnlaaTold
import Derived.Test.YtfhjoojifjmnlaaRateB
namespace Go.Proofs.Ytfhjoojifjmnlaa
open Go.RowKit
theorem ceil_ge (n : Nat) {d : Nat} (hd : 0 < d) : n ≤ divQ n d true * d := by
  have h := Nat.div_add_mod' n d
  by_cases hr : n % d = 0
  · rw [divQ_none hr]
    omega
  · rw [divQ_one hr, Nat.add_mul, Nat.one_mul]
    have := Nat.mod_lt n hd
    omega
theorem ceil_lt {n d : Nat} (h0 : 0 < divQ n d true) (hd : 0 < d) : (divQ n d true - 1) * d < n := by
  have h := Nat.div_add_mod' n d
  by_cases hr : n % d = 0
  · rw [divQ_none hr] at h0 ⊢
    rw [Nat.sub_mul, Nat.one_mul]
    have := Nat.mul_le_mul_right d (show 1 ≤ n / d by omega)
    omega
  · rw [divQ_one hr, Nat.add_sub_cancel]
    omega
theorem floor_lt (n : Nat) {d : Nat} (hd : 0 < d) : n < (n / d + 1) * d := by
  have h := Nat.div_add_mod' n d
  have := Nat.mod_lt n hd
  rw [Nat.add_mul, Nat.one_mul]
  omega
theorem need_no {a p t : Nat} (h : ¬ (a ≤ 4611686018427387904 ∧ (1 ≤ p ∧ p ≤ 1099511627776) ∧ (1 ≤ t ∧ t ≤ 1000000))) : needE a p t = 1 ∧ needV a p t = 0 := by rw [needE, needV, if_neg h, if_neg h]; exact ⟨rfl, rfl⟩
theorem room_no {a p t : Nat} (h : ¬ (a ≤ 4611686018427387904 ∧ (1 ≤ p ∧ p ≤ 1099511627776) ∧ (1 ≤ t ∧ t ≤ 1000000))) : roomE a p t = 1 ∧ roomV a p t = 0 := by rw [roomE, roomV, if_neg h, if_neg h]; exact ⟨rfl, rfl⟩
theorem div_told (n d : Nat) (m : Bool) : (divF n d m = false → divE n d m = 4 ∧ divV n d m = 0) ∧ (divF n d m = true → divE n d m = 0 ∧ divV n d m = divV n d m) := by
  constructor
  · intro h
    refine ⟨by rw [divE, h]; rfl, ?_⟩
    rw [divV, if_neg (of_decide_eq_false h)]
  · intro h
    exact ⟨by rw [divE, h]; rfl, rfl⟩
theorem need_yes {a p t : Nat} (h : a ≤ 4611686018427387904 ∧ (1 ≤ p ∧ p ≤ 1099511627776) ∧ (1 ≤ t ∧ t ≤ 1000000)) : (divF (a * p * t) (100000000 * 1000) true = false → needE a p t = 4 ∧ needV a p t = 0) ∧ (divF (a * p * t) (100000000 * 1000) true = true → needE a p t = 0 ∧ needV a p t = divV (a * p * t) (100000000 * 1000) true) := by
  rw [needE, needV, if_pos h, if_pos h]
  exact div_told _ _ _
theorem room_yes {a p t : Nat} (h : a ≤ 4611686018427387904 ∧ (1 ≤ p ∧ p ≤ 1099511627776) ∧ (1 ≤ t ∧ t ≤ 1000000)) : (divF (a * 100000000 * 1000) (p * t) false = false → roomE a p t = 4 ∧ roomV a p t = 0) ∧ (divF (a * 100000000 * 1000) (p * t) false = true → roomE a p t = 0 ∧ roomV a p t = divV (a * 100000000 * 1000) (p * t) false) := by
  rw [roomE, roomV, if_pos h, if_pos h]
  exact div_told _ _ _
theorem divE_zero {n d : Nat} {m : Bool} (h : divE n d m = 0) : divQ n d m ≤ 4611686018427387904 ∧ divV n d m = divQ n d m := by
  unfold divE at h
  split at h
  · rename_i hf
    have hf := of_decide_eq_true hf
    exact ⟨hf, by rw [divV, if_pos hf]⟩
  · cases h
theorem divV_le (n d : Nat) (m : Bool) : divV n d m ≤ 4611686018427387904 := by
  unfold divV
  split <;> omega
theorem needV_le (a p t : Nat) : needV a p t ≤ 4611686018427387904 := by
  unfold needV
  split
  · exact divV_le _ _ _
  · omega
theorem roomV_le (a p t : Nat) : roomV a p t ≤ 4611686018427387904 := by
  unfold roomV
  split
  · exact divV_le _ _ _
  · omega
/-- What is needed is enough, and one less isn't. -/
theorem need_ok {a p t : Nat} (h : a ≤ 4611686018427387904 ∧ (1 ≤ p ∧ p ≤ 1099511627776) ∧ (1 ≤ t ∧ t ≤ 1000000)) (he : needE a p t = 0) :
    needV a p t ≤ 4611686018427387904 ∧ enough (needV a p t) a p t = true ∧ (0 < needV a p t → enough (needV a p t - 1) a p t = false) := by
  rw [needE, if_pos h] at he
  obtain ⟨h1, h2⟩ := divE_zero he
  rw [needV, if_pos h, h2]
  have c1 := ceil_ge (a * p * t) (d := 100000000 * 1000) (by decide)
  have c2 := fun h0 => ceil_lt (n := a * p * t) (d := 100000000 * 1000) h0 (by decide)
  refine ⟨h1, decide_eq_true ⟨h1, h.1, h.2.1, h.2.2, ?_⟩, fun h0 => decide_eq_false (fun hh => ?_)⟩
  · rw [Nat.mul_assoc (divQ _ _ _) 100000000 1000]
    exact c1
  · have h6 := c2 h0
    have h5 := hh.2.2.2.2
    rw [Nat.mul_assoc (divQ _ _ _ - 1) 100000000 1000] at h5
    exact Nat.lt_irrefl _ (Nat.lt_of_lt_of_le h6 h5)
/-- There is room for so many parts, and for no more. -/
theorem room_ok {a p t : Nat} (h : a ≤ 4611686018427387904 ∧ (1 ≤ p ∧ p ≤ 1099511627776) ∧ (1 ≤ t ∧ t ≤ 1000000)) (he : roomE a p t = 0) :
    roomV a p t ≤ 4611686018427387904 ∧ enough a (roomV a p t) p t = true ∧ (enough a (roomV a p t + 1) p t = false) := by
  rw [roomE, if_pos h] at he
  obtain ⟨h1, h2⟩ := divE_zero he
  rw [roomV, if_pos h, h2]
  rw [divQ_down] at h1 ⊢
  have hpt : 0 < p * t := Nat.mul_pos (by omega) (by omega)
  have c1 := Nat.div_mul_le_self (a * 100000000 * 1000) (p * t)
  have c2 := floor_lt (a * 100000000 * 1000) hpt
  refine ⟨h1, decide_eq_true ⟨h.1, h1, h.2.1, h.2.2, ?_⟩, decide_eq_false (fun hh => ?_)⟩
  · rw [Nat.mul_assoc]
    exact c1
  · have h5 := hh.2.2.2.2
    rw [Nat.mul_assoc] at h5
    omega
theorem RateNeeds_calls (a p t : Nat) (ha : a < K) (hp : p < K) (ht : t < K) (w : World) : Calls Try.prog 6 #[.int .u64 (a : Int), .int .u64 (p : Int), .int .u64 (t : Int)] w fun e w' => e = .returned (.bool true) ∧ Hp w [] [] w' := by
  have hMX : MX = 4611686018427387904 := rfl
  have hK0 : K = 18446744073709551616 := rfl
  have hK40 : K4 = 115792089237316195423570985008687907853269984665640564039457584007913129639936 := rfl
  have hnv := needV_le a p t
  have hrv := roomV_le a p t
  refine calls_G (args := [.int .u64 (a : Int), .int .u64 (p : Int), .int .u64 (t : Int)]) Try.func6 rfl Try.ntmps6 rfl ?_
  intro Q0 hRet hNor hPan
  have H := Hp.start w
  have H : Hp w [] [] w := H
  refine G.seqK fun K1 hK2 => ?_
  refine G.region ?_
  refine GL.run (j := 1) 1 [0, 1, 2] [(0, .int .u64 (a : Int)), (1, .int .u64 (p : Int)), (2, .int .u64 (t : Int))] (by kernel_rfl) rfl ?_
  refine GL.k rfl hK2 (fun _ _ h => h) ?_
  refine G.seqK fun K3 hK4 => ?_
  refine G.seqK fun K5 hK6 => ?_
  refine G.region ?_
  refine GL.call (j := 1) (lives_calls w) (by kernel_rfl) rfl (fun e_ w7 hR => ?_)
  obtain ⟨rfl, H9⟩ := hR
  have H8 : Hp w [] [] w7 := H.callNil H9
  refine ⟨_, rfl, [0, 1, 2, 16], [(0, .int .u64 (a : Int)), (1, .int .u64 (p : Int)), (2, .int .u64 (t : Int)), (16, .bool true)], by kernel_rfl, ?_⟩
  refine GL.run (j := 2) 1 [0, 1, 2, 17] [(0, .int .u64 (a : Int)), (1, .int .u64 (p : Int)), (2, .int .u64 (t : Int)), (17, .bool false)] (by kernel_rfl) rfl ?_
  refine GL.k rfl hK6 (fun _ _ h => h) ?_
  refine G.no rfl ?_
  refine G.skipK hK4 (fun _ _ h => h) ?_
  refine G.seqK fun K10 hK11 => ?_
  refine G.region ?_
  refine GL.run (j := 3) 3 [0, 1, 2, 19, 20, 21] [(0, .int .u64 (a : Int)), (1, .int .u64 (p : Int)), (2, .int .u64 (t : Int)), (19, .int .u64 (a : Int)), (20, .int .u64 (p : Int)), (21, .int .u64 (t : Int))] (by kernel_rfl) rfl ?_
  refine GL.call (j := 4) (Needs_calls a p t ha hp ht w7) (by kernel_rfl) rfl (fun e_ w12 hR => ?_)
  obtain ⟨rfl, H14⟩ := hR
  have H13 : Hp w [] [] w12 := H8.callNil H14
  refine ⟨_, rfl, [0, 1, 2, 22], [(0, .int .u64 (a : Int)), (1, .int .u64 (p : Int)), (2, .int .u64 (t : Int)), (22, .tuple #[.int .u64 (((needV a p t) : Nat) : Int), .int .i64 (((needE a p t) : Nat) : Int)])], by kernel_rfl, ?_⟩
  refine GL.run (j := 9) 5 [0, 1, 2, 7, 8] [(0, .int .u64 (a : Int)), (1, .int .u64 (p : Int)), (2, .int .u64 (t : Int)), (7, .int .u64 (((needV a p t) : Nat) : Int)), (8, .int .i64 (((needE a p t) : Nat) : Int))] (by kernel_rfl) rfl ?_
  refine GL.k rfl hK11 (fun _ _ h => h) ?_
  refine G.seqK fun K15 hK16 => ?_
  refine G.region ?_
  refine GL.run (j := 3) 3 [0, 1, 2, 7, 8, 26, 27, 28] [(0, .int .u64 (a : Int)), (1, .int .u64 (p : Int)), (2, .int .u64 (t : Int)), (7, .int .u64 (((needV a p t) : Nat) : Int)), (8, .int .i64 (((needE a p t) : Nat) : Int)), (26, .int .u64 (a : Int)), (27, .int .u64 (p : Int)), (28, .int .u64 (t : Int))] (by kernel_rfl) rfl ?_
  refine GL.call (j := 4) (Room_calls a p t ha hp ht w12) (by kernel_rfl) rfl (fun e_ w17 hR => ?_)
  obtain ⟨rfl, H19⟩ := hR
  have H18 : Hp w [] [] w17 := H13.callNil H19
  refine ⟨_, rfl, [0, 1, 2, 7, 8, 29], [(0, .int .u64 (a : Int)), (1, .int .u64 (p : Int)), (2, .int .u64 (t : Int)), (7, .int .u64 (((needV a p t) : Nat) : Int)), (8, .int .i64 (((needE a p t) : Nat) : Int)), (29, .tuple #[.int .u64 (((roomV a p t) : Nat) : Int), .int .i64 (((roomE a p t) : Nat) : Int)])], by kernel_rfl, ?_⟩
  refine GL.run (j := 9) 5 [0, 1, 2, 7, 8, 9, 10] [(0, .int .u64 (a : Int)), (1, .int .u64 (p : Int)), (2, .int .u64 (t : Int)), (7, .int .u64 (((needV a p t) : Nat) : Int)), (8, .int .i64 (((needE a p t) : Nat) : Int)), (9, .int .u64 (((roomV a p t) : Nat) : Int)), (10, .int .i64 (((roomE a p t) : Nat) : Int))] (by kernel_rfl) rfl ?_
  refine GL.k rfl hK16 (fun _ _ h => h) ?_
  refine G.seqK fun K20 hK21 => ?_
  refine G.region ?_
  refine GL.run (j := 3) 3 [0, 1, 2, 7, 8, 9, 10, 32, 33, 34] [(0, .int .u64 (a : Int)), (1, .int .u64 (p : Int)), (2, .int .u64 (t : Int)), (7, .int .u64 (((needV a p t) : Nat) : Int)), (8, .int .i64 (((needE a p t) : Nat) : Int)), (9, .int .u64 (((roomV a p t) : Nat) : Int)), (10, .int .i64 (((roomE a p t) : Nat) : Int)), (32, .int .u64 (p : Int)), (33, .int .u64 (t : Int)), (34, .int .u64 (a : Int))] (by kernel_rfl) rfl ?_
  obtain ⟨p22, w23, r24, H25⟩ := H18.madeRow (P := Try.prog) (Instr.buildSlice 36 1 #[(0, .int .u64 (a : Int))]) (fun b_ => .slice (some ⟨b_, 0, none⟩) 1 1) [.int .u64 (a : Int)] 22 1 1 1 (by kernel_rfl) (by decide) (by decide) rfl
  have H25 : Hp w [] [.row (some ⟨p22, 0, none⟩) 1 1 22 1 (dg [a])] w23 := H25
  refine GL.sem (j := 4) (r24) [0, 1, 2, 7, 8, 9, 10, 32, 33, 35] [(0, .int .u64 (a : Int)), (1, .int .u64 (p : Int)), (2, .int .u64 (t : Int)), (7, .int .u64 (((needV a p t) : Nat) : Int)), (8, .int .i64 (((needE a p t) : Nat) : Int)), (9, .int .u64 (((roomV a p t) : Nat) : Int)), (10, .int .i64 (((roomE a p t) : Nat) : Int)), (32, .int .u64 (p : Int)), (33, .int .u64 (t : Int)), (35, .slice (some ⟨p22, 0, none⟩) 1 1)] (by kernel_rfl) (by kernel_rfl) rfl ?_
  refine GL.call (j := 5) (Right5_1 p t a (some ⟨p22, 0, none⟩) 1 w23 (H25.rdRow 0 rfl)) (by kernel_rfl) rfl (fun e_ w26 hR => ?_)
  obtain ⟨rfl, H28⟩ := hR
  have H27 : Hp w [] [.row (some ⟨p22, 0, none⟩) 1 1 22 1 (dg [a])] w26 := H25.callNil H28
  refine ⟨_, rfl, [0, 1, 2, 7, 8, 9, 10, 36], [(0, .int .u64 (a : Int)), (1, .int .u64 (p : Int)), (2, .int .u64 (t : Int)), (7, .int .u64 (((needV a p t) : Nat) : Int)), (8, .int .i64 (((needE a p t) : Nat) : Int)), (9, .int .u64 (((roomV a p t) : Nat) : Int)), (10, .int .i64 (((roomE a p t) : Nat) : Int)), (36, .bool (decide (a ≤ 4611686018427387904 ∧ (1 ≤ p ∧ p ≤ 1099511627776) ∧ (1 ≤ t ∧ t ≤ 1000000))))], by kernel_rfl, ?_⟩
  refine GL.run (j := 6) 1 [0, 1, 2, 7, 8, 9, 10, 11] [(0, .int .u64 (a : Int)), (1, .int .u64 (p : Int)), (2, .int .u64 (t : Int)), (7, .int .u64 (((needV a p t) : Nat) : Int)), (8, .int .i64 (((needE a p t) : Nat) : Int)), (9, .int .u64 (((roomV a p t) : Nat) : Int)), (10, .int .i64 (((roomE a p t) : Nat) : Int)), (11, .bool (decide (a ≤ 4611686018427387904 ∧ (1 ≤ p ∧ p ≤ 1099511627776) ∧ (1 ≤ t ∧ t ≤ 1000000))))] (by kernel_rfl) rfl ?_
  refine GL.k rfl hK21 (fun _ _ h => h) ?_
  refine G.seqK fun K29 hK30 => ?_
  refine G.seqK fun K31 hK32 => ?_
  refine G.region ?_
  refine GL.run (j := 2) 2 [0, 1, 2, 7, 8, 9, 10, 38] [(0, .int .u64 (a : Int)), (1, .int .u64 (p : Int)), (2, .int .u64 (t : Int)), (7, .int .u64 (((needV a p t) : Nat) : Int)), (8, .int .i64 (((needE a p t) : Nat) : Int)), (9, .int .u64 (((roomV a p t) : Nat) : Int)), (10, .int .i64 (((roomE a p t) : Nat) : Int)), (38, .bool (!(decide (a ≤ 4611686018427387904 ∧ (1 ≤ p ∧ p ≤ 1099511627776) ∧ (1 ≤ t ∧ t ≤ 1000000)))))] (by kernel_rfl) rfl ?_
  refine GL.k rfl hK32 (fun _ _ h => h) ?_
  cases hb33 : (decide (a ≤ 4611686018427387904 ∧ (1 ≤ p ∧ p ≤ 1099511627776) ∧ (1 ≤ t ∧ t ≤ 1000000)))
  · skip
    have hb33f := of_decide_eq_false hb33
    have hR := hb33f
    refine G.yes rfl ?_
    refine G.seqK fun K34 hK35 => ?_
    refine G.region ?_
    refine GL.run (j := 2) 2 [9, 10, 39, 40] [(9, .int .u64 (((roomV a p t) : Nat) : Int)), (10, .int .i64 (((roomE a p t) : Nat) : Int)), (39, .int .u64 (((needV a p t) : Nat) : Int)), (40, .int .i64 (((needE a p t) : Nat) : Int))] (by kernel_rfl) rfl ?_
    refine GL.call (j := 3) (told_calls (needV a p t) (needE a p t) 0 false false (fun _ => need_no hR) (fun h => by cases h) w26) (by kernel_rfl) rfl (fun e_ w36 hR => ?_)
    obtain ⟨rfl, H38⟩ := hR
    have H37 : Hp w [] [.row (some ⟨p22, 0, none⟩) 1 1 22 1 (dg [a])] w36 := H27.callNil H38
    refine ⟨_, rfl, [9, 10, 41], [(9, .int .u64 (((roomV a p t) : Nat) : Int)), (10, .int .i64 (((roomE a p t) : Nat) : Int)), (41, .bool true)], by kernel_rfl, ?_⟩
    refine GL.run (j := 6) 3 [42, 43, 44] [(42, .bool true), (43, .int .u64 (((roomV a p t) : Nat) : Int)), (44, .int .i64 (((roomE a p t) : Nat) : Int))] (by kernel_rfl) rfl ?_
    refine GL.call (j := 7) (told_calls (roomV a p t) (roomE a p t) 0 false false (fun _ => room_no hR) (fun h => by cases h) w36) (by kernel_rfl) rfl (fun e_ w39 hR => ?_)
    obtain ⟨rfl, H41⟩ := hR
    have H40 : Hp w [] [.row (some ⟨p22, 0, none⟩) 1 1 22 1 (dg [a])] w39 := H37.callNil H41
    refine ⟨_, rfl, [42, 45], [(42, .bool true), (45, .bool true)], by kernel_rfl, ?_⟩
    refine GL.run (j := 9) 2 [6] [(6, .bool true)] (by kernel_rfl) rfl ?_
    refine GL.k rfl hK35 (fun _ _ h => h) ?_
    refine G.ret ?_
    intro F_ hF_ hM_
    refine hRet _ _ (bodyPost_1 rfl (RV.tmp rfl) ?_ F_ hF_ hM_)
    exact ⟨rfl, H40.sub (List.nil_sublist _)⟩
  · skip
    have hb33f := of_decide_eq_true hb33
    have hR := hb33f
    refine G.no rfl ?_
    refine G.skipK hK30 (fun _ _ h => h) ?_
    refine G.seqK fun K42 hK43 => ?_
    refine G.region ?_
    refine GL.run (j := 3) 3 [0, 1, 2, 7, 8, 9, 10, 48, 49, 50] [(0, .int .u64 (a : Int)), (1, .int .u64 (p : Int)), (2, .int .u64 (t : Int)), (7, .int .u64 (((needV a p t) : Nat) : Int)), (8, .int .i64 (((needE a p t) : Nat) : Int)), (9, .int .u64 (((roomV a p t) : Nat) : Int)), (10, .int .i64 (((roomE a p t) : Nat) : Int)), (48, .int .u64 (a : Int)), (49, .int .u64 (p : Int)), (50, .int .u64 (t : Int))] (by kernel_rfl) rfl ?_
    obtain ⟨p44, w45, r46, H47⟩ := H27.madeRow (P := Try.prog) (Instr.buildSlice 36 3 #[(0, .int .u64 (a : Int)), (1, .int .u64 (p : Int)), (2, .int .u64 (t : Int))]) (fun b_ => .slice (some ⟨b_, 0, none⟩) 3 3) [.int .u64 (a : Int), .int .u64 (p : Int), .int .u64 (t : Int)] 22 3 3 1 (by kernel_rfl) (by decide) (by decide) rfl
    have H47 : Hp w [] [.row (some ⟨p22, 0, none⟩) 1 1 22 1 (dg [a]), .row (some ⟨p44, 0, none⟩) 3 3 22 1 (dg [a, p, t])] w45 := H47
    refine GL.sem (j := 4) (r46) [0, 1, 2, 7, 8, 9, 10, 51] [(0, .int .u64 (a : Int)), (1, .int .u64 (p : Int)), (2, .int .u64 (t : Int)), (7, .int .u64 (((needV a p t) : Nat) : Int)), (8, .int .i64 (((needE a p t) : Nat) : Int)), (9, .int .u64 (((roomV a p t) : Nat) : Int)), (10, .int .i64 (((roomE a p t) : Nat) : Int)), (51, .slice (some ⟨p44, 0, none⟩) 3 3)] (by kernel_rfl) (by kernel_rfl) rfl ?_
    have hN53 : ndg (a * p * t) ≤ 12 := ndg_mul (ndg_mul (ndg_K ha) (ndg_K hp)) (ndg_K ht)
    refine GL.call (j := 5) (Product5_3 a p t ha hp ht (some ⟨p44, 0, none⟩) 3 w45 (H47.rdRow 1 rfl)) (by kernel_rfl) rfl (fun e_ w52 hR => ?_)
    obtain ⟨A48, c49, rfl, H51⟩ := hR
    have H50 : Hp w [] [.row (some ⟨p22, 0, none⟩) 1 1 22 1 (dg [a]), .row (some ⟨p44, 0, none⟩) 3 3 22 1 (dg [a, p, t]), .row A48 (ndg (a * p * t)) c49 22 1 (dg (digs (a * p * t)))] w52 := H47.callNew H51
    refine ⟨_, rfl, [0, 1, 2, 7, 8, 9, 10, 52], [(0, .int .u64 (a : Int)), (1, .int .u64 (p : Int)), (2, .int .u64 (t : Int)), (7, .int .u64 (((needV a p t) : Nat) : Int)), (8, .int .i64 (((needE a p t) : Nat) : Int)), (9, .int .u64 (((roomV a p t) : Nat) : Int)), (10, .int .i64 (((roomE a p t) : Nat) : Int)), (52, .slice A48 (ndg (a * p * t)) c49)], by kernel_rfl, ?_⟩
    obtain ⟨p54, w55, r56, H57⟩ := H50.madeRow (P := Try.prog) (Instr.buildSlice 36 2 #[(0, .int .u64 100000000), (1, .int .u64 1000)]) (fun b_ => .slice (some ⟨b_, 0, none⟩) 2 2) [.int .u64 100000000, .int .u64 1000] 22 2 2 1 (by kernel_rfl) (by decide) (by decide) rfl
    have H57 : Hp w [] [.row (some ⟨p22, 0, none⟩) 1 1 22 1 (dg [a]), .row (some ⟨p44, 0, none⟩) 3 3 22 1 (dg [a, p, t]), .row A48 (ndg (a * p * t)) c49 22 1 (dg (digs (a * p * t))), .row (some ⟨p54, 0, none⟩) 2 2 22 1 (dg [100000000, 1000])] w55 := H57
    refine GL.sem (j := 6) (r56) [0, 1, 2, 7, 8, 9, 10, 52, 53] [(0, .int .u64 (a : Int)), (1, .int .u64 (p : Int)), (2, .int .u64 (t : Int)), (7, .int .u64 (((needV a p t) : Nat) : Int)), (8, .int .i64 (((needE a p t) : Nat) : Int)), (9, .int .u64 (((roomV a p t) : Nat) : Int)), (10, .int .i64 (((roomE a p t) : Nat) : Int)), (52, .slice A48 (ndg (a * p * t)) c49), (53, .slice (some ⟨p54, 0, none⟩) 2 2)] (by kernel_rfl) (by kernel_rfl) rfl ?_
    have hN63 : ndg (100000000 * 1000) ≤ 8 := ndg_mul (ndg_K (by decide)) (ndg_K (by decide))
    refine GL.call (j := 7) (Product5_2 100000000 1000 (by decide) (by decide) (some ⟨p54, 0, none⟩) 2 w55 (H57.rdRow 3 rfl)) (by kernel_rfl) rfl (fun e_ w62 hR => ?_)
    obtain ⟨A58, c59, rfl, H61⟩ := hR
    have H60 : Hp w [] [.row (some ⟨p22, 0, none⟩) 1 1 22 1 (dg [a]), .row (some ⟨p44, 0, none⟩) 3 3 22 1 (dg [a, p, t]), .row A48 (ndg (a * p * t)) c49 22 1 (dg (digs (a * p * t))), .row (some ⟨p54, 0, none⟩) 2 2 22 1 (dg [100000000, 1000]), .row A58 (ndg (100000000 * 1000)) c59 22 1 (dg (digs (100000000 * 1000)))] w62 := H57.callNew H61
    refine ⟨_, rfl, [0, 1, 2, 7, 8, 9, 10, 52, 54], [(0, .int .u64 (a : Int)), (1, .int .u64 (p : Int)), (2, .int .u64 (t : Int)), (7, .int .u64 (((needV a p t) : Nat) : Int)), (8, .int .i64 (((needE a p t) : Nat) : Int)), (9, .int .u64 (((roomV a p t) : Nat) : Int)), (10, .int .i64 (((roomE a p t) : Nat) : Int)), (52, .slice A48 (ndg (a * p * t)) c49), (54, .slice A58 (ndg (100000000 * 1000)) c59)], by kernel_rfl, ?_⟩
    refine GL.call (j := 8) (Divide5_up (a * p * t) (100000000 * 1000) A48 c49 A58 c59 w62 (H60.rdRow 2 rfl) (H60.rdRow 4 rfl) (Nat.le_trans hN53 (by decide)) (Nat.le_trans hN63 (by decide)) (by omega)) (by kernel_rfl) rfl (fun e_ w64 hR => ?_)
    obtain ⟨rfl, H66⟩ := hR
    have H65 : Hp w [] [.row (some ⟨p22, 0, none⟩) 1 1 22 1 (dg [a]), .row (some ⟨p44, 0, none⟩) 3 3 22 1 (dg [a, p, t]), .row A48 (ndg (a * p * t)) c49 22 1 (dg (digs (a * p * t))), .row (some ⟨p54, 0, none⟩) 2 2 22 1 (dg [100000000, 1000]), .row A58 (ndg (100000000 * 1000)) c59 22 1 (dg (digs (100000000 * 1000)))] w64 := H60.callNil H66
    refine ⟨_, rfl, [0, 1, 2, 7, 8, 9, 10, 55], [(0, .int .u64 (a : Int)), (1, .int .u64 (p : Int)), (2, .int .u64 (t : Int)), (7, .int .u64 (((needV a p t) : Nat) : Int)), (8, .int .i64 (((needE a p t) : Nat) : Int)), (9, .int .u64 (((roomV a p t) : Nat) : Int)), (10, .int .i64 (((roomE a p t) : Nat) : Int)), (55, .tuple #[.int .u64 (((divV (a * p * t) (100000000 * 1000) true) : Nat) : Int), .bool (divF (a * p * t) (100000000 * 1000) true)])], by kernel_rfl, ?_⟩
    refine GL.run (j := 13) 5 [0, 1, 2, 7, 8, 9, 10, 12, 13] [(0, .int .u64 (a : Int)), (1, .int .u64 (p : Int)), (2, .int .u64 (t : Int)), (7, .int .u64 (((needV a p t) : Nat) : Int)), (8, .int .i64 (((needE a p t) : Nat) : Int)), (9, .int .u64 (((roomV a p t) : Nat) : Int)), (10, .int .i64 (((roomE a p t) : Nat) : Int)), (12, .int .u64 (((divV (a * p * t) (100000000 * 1000) true) : Nat) : Int)), (13, .bool (divF (a * p * t) (100000000 * 1000) true))] (by kernel_rfl) rfl ?_
    refine GL.k rfl hK43 (fun _ _ h => h) ?_
    refine G.seqK fun K67 hK68 => ?_
    refine G.region ?_
    refine GL.run (j := 1) 1 [0, 1, 2, 7, 8, 9, 10, 12, 13, 59] [(0, .int .u64 (a : Int)), (1, .int .u64 (p : Int)), (2, .int .u64 (t : Int)), (7, .int .u64 (((needV a p t) : Nat) : Int)), (8, .int .i64 (((needE a p t) : Nat) : Int)), (9, .int .u64 (((roomV a p t) : Nat) : Int)), (10, .int .i64 (((roomE a p t) : Nat) : Int)), (12, .int .u64 (((divV (a * p * t) (100000000 * 1000) true) : Nat) : Int)), (13, .bool (divF (a * p * t) (100000000 * 1000) true)), (59, .int .u64 (a : Int))] (by kernel_rfl) rfl ?_
    obtain ⟨p69, w70, r71, H72⟩ := H65.madeRow (P := Try.prog) (Instr.buildSlice 36 3 #[(0, .int .u64 (a : Int)), (1, .int .u64 100000000), (2, .int .u64 1000)]) (fun b_ => .slice (some ⟨b_, 0, none⟩) 3 3) [.int .u64 (a : Int), .int .u64 100000000, .int .u64 1000] 22 3 3 1 (by kernel_rfl) (by decide) (by decide) rfl
    have H72 : Hp w [] [.row (some ⟨p22, 0, none⟩) 1 1 22 1 (dg [a]), .row (some ⟨p44, 0, none⟩) 3 3 22 1 (dg [a, p, t]), .row A48 (ndg (a * p * t)) c49 22 1 (dg (digs (a * p * t))), .row (some ⟨p54, 0, none⟩) 2 2 22 1 (dg [100000000, 1000]), .row A58 (ndg (100000000 * 1000)) c59 22 1 (dg (digs (100000000 * 1000))), .row (some ⟨p69, 0, none⟩) 3 3 22 1 (dg [a, 100000000, 1000])] w70 := H72
    refine GL.sem (j := 2) (r71) [0, 1, 2, 7, 8, 9, 10, 12, 13, 60] [(0, .int .u64 (a : Int)), (1, .int .u64 (p : Int)), (2, .int .u64 (t : Int)), (7, .int .u64 (((needV a p t) : Nat) : Int)), (8, .int .i64 (((needE a p t) : Nat) : Int)), (9, .int .u64 (((roomV a p t) : Nat) : Int)), (10, .int .i64 (((roomE a p t) : Nat) : Int)), (12, .int .u64 (((divV (a * p * t) (100000000 * 1000) true) : Nat) : Int)), (13, .bool (divF (a * p * t) (100000000 * 1000) true)), (60, .slice (some ⟨p69, 0, none⟩) 3 3)] (by kernel_rfl) (by kernel_rfl) rfl ?_
    have hN78 : ndg (a * 100000000 * 1000) ≤ 12 := ndg_mul (ndg_mul (ndg_K ha) (ndg_K (by decide))) (ndg_K (by decide))
    refine GL.call (j := 3) (Product5_3 a 100000000 1000 ha (by decide) (by decide) (some ⟨p69, 0, none⟩) 3 w70 (H72.rdRow 5 rfl)) (by kernel_rfl) rfl (fun e_ w77 hR => ?_)
    obtain ⟨A73, c74, rfl, H76⟩ := hR
    have H75 : Hp w [] [.row (some ⟨p22, 0, none⟩) 1 1 22 1 (dg [a]), .row (some ⟨p44, 0, none⟩) 3 3 22 1 (dg [a, p, t]), .row A48 (ndg (a * p * t)) c49 22 1 (dg (digs (a * p * t))), .row (some ⟨p54, 0, none⟩) 2 2 22 1 (dg [100000000, 1000]), .row A58 (ndg (100000000 * 1000)) c59 22 1 (dg (digs (100000000 * 1000))), .row (some ⟨p69, 0, none⟩) 3 3 22 1 (dg [a, 100000000, 1000]), .row A73 (ndg (a * 100000000 * 1000)) c74 22 1 (dg (digs (a * 100000000 * 1000)))] w77 := H72.callNew H76
    refine ⟨_, rfl, [0, 1, 2, 7, 8, 9, 10, 12, 13, 61], [(0, .int .u64 (a : Int)), (1, .int .u64 (p : Int)), (2, .int .u64 (t : Int)), (7, .int .u64 (((needV a p t) : Nat) : Int)), (8, .int .i64 (((needE a p t) : Nat) : Int)), (9, .int .u64 (((roomV a p t) : Nat) : Int)), (10, .int .i64 (((roomE a p t) : Nat) : Int)), (12, .int .u64 (((divV (a * p * t) (100000000 * 1000) true) : Nat) : Int)), (13, .bool (divF (a * p * t) (100000000 * 1000) true)), (61, .slice A73 (ndg (a * 100000000 * 1000)) c74)], by kernel_rfl, ?_⟩
    refine GL.run (j := 5) 2 [0, 1, 2, 7, 8, 9, 10, 12, 13, 61, 62, 63] [(0, .int .u64 (a : Int)), (1, .int .u64 (p : Int)), (2, .int .u64 (t : Int)), (7, .int .u64 (((needV a p t) : Nat) : Int)), (8, .int .i64 (((needE a p t) : Nat) : Int)), (9, .int .u64 (((roomV a p t) : Nat) : Int)), (10, .int .i64 (((roomE a p t) : Nat) : Int)), (12, .int .u64 (((divV (a * p * t) (100000000 * 1000) true) : Nat) : Int)), (13, .bool (divF (a * p * t) (100000000 * 1000) true)), (61, .slice A73 (ndg (a * 100000000 * 1000)) c74), (62, .int .u64 (p : Int)), (63, .int .u64 (t : Int))] (by kernel_rfl) rfl ?_
    obtain ⟨p79, w80, r81, H82⟩ := H75.madeRow (P := Try.prog) (Instr.buildSlice 36 2 #[(0, .int .u64 (p : Int)), (1, .int .u64 (t : Int))]) (fun b_ => .slice (some ⟨b_, 0, none⟩) 2 2) [.int .u64 (p : Int), .int .u64 (t : Int)] 22 2 2 1 (by kernel_rfl) (by decide) (by decide) rfl
    have H82 : Hp w [] [.row (some ⟨p22, 0, none⟩) 1 1 22 1 (dg [a]), .row (some ⟨p44, 0, none⟩) 3 3 22 1 (dg [a, p, t]), .row A48 (ndg (a * p * t)) c49 22 1 (dg (digs (a * p * t))), .row (some ⟨p54, 0, none⟩) 2 2 22 1 (dg [100000000, 1000]), .row A58 (ndg (100000000 * 1000)) c59 22 1 (dg (digs (100000000 * 1000))), .row (some ⟨p69, 0, none⟩) 3 3 22 1 (dg [a, 100000000, 1000]), .row A73 (ndg (a * 100000000 * 1000)) c74 22 1 (dg (digs (a * 100000000 * 1000))), .row (some ⟨p79, 0, none⟩) 2 2 22 1 (dg [p, t])] w80 := H82
    refine GL.sem (j := 6) (r81) [0, 1, 2, 7, 8, 9, 10, 12, 13, 61, 64] [(0, .int .u64 (a : Int)), (1, .int .u64 (p : Int)), (2, .int .u64 (t : Int)), (7, .int .u64 (((needV a p t) : Nat) : Int)), (8, .int .i64 (((needE a p t) : Nat) : Int)), (9, .int .u64 (((roomV a p t) : Nat) : Int)), (10, .int .i64 (((roomE a p t) : Nat) : Int)), (12, .int .u64 (((divV (a * p * t) (100000000 * 1000) true) : Nat) : Int)), (13, .bool (divF (a * p * t) (100000000 * 1000) true)), (61, .slice A73 (ndg (a * 100000000 * 1000)) c74), (64, .slice (some ⟨p79, 0, none⟩) 2 2)] (by kernel_rfl) (by kernel_rfl) rfl ?_
    have hN88 : ndg (p * t) ≤ 8 := ndg_mul (ndg_K hp) (ndg_K ht)
    refine GL.call (j := 7) (Product5_2 p t hp ht (some ⟨p79, 0, none⟩) 2 w80 (H82.rdRow 7 rfl)) (by kernel_rfl) rfl (fun e_ w87 hR => ?_)
    obtain ⟨A83, c84, rfl, H86⟩ := hR
    have H85 : Hp w [] [.row (some ⟨p22, 0, none⟩) 1 1 22 1 (dg [a]), .row (some ⟨p44, 0, none⟩) 3 3 22 1 (dg [a, p, t]), .row A48 (ndg (a * p * t)) c49 22 1 (dg (digs (a * p * t))), .row (some ⟨p54, 0, none⟩) 2 2 22 1 (dg [100000000, 1000]), .row A58 (ndg (100000000 * 1000)) c59 22 1 (dg (digs (100000000 * 1000))), .row (some ⟨p69, 0, none⟩) 3 3 22 1 (dg [a, 100000000, 1000]), .row A73 (ndg (a * 100000000 * 1000)) c74 22 1 (dg (digs (a * 100000000 * 1000))), .row (some ⟨p79, 0, none⟩) 2 2 22 1 (dg [p, t]), .row A83 (ndg (p * t)) c84 22 1 (dg (digs (p * t)))] w87 := H82.callNew H86
    refine ⟨_, rfl, [0, 1, 2, 7, 8, 9, 10, 12, 13, 61, 65], [(0, .int .u64 (a : Int)), (1, .int .u64 (p : Int)), (2, .int .u64 (t : Int)), (7, .int .u64 (((needV a p t) : Nat) : Int)), (8, .int .i64 (((needE a p t) : Nat) : Int)), (9, .int .u64 (((roomV a p t) : Nat) : Int)), (10, .int .i64 (((roomE a p t) : Nat) : Int)), (12, .int .u64 (((divV (a * p * t) (100000000 * 1000) true) : Nat) : Int)), (13, .bool (divF (a * p * t) (100000000 * 1000) true)), (61, .slice A73 (ndg (a * 100000000 * 1000)) c74), (65, .slice A83 (ndg (p * t)) c84)], by kernel_rfl, ?_⟩
    refine GL.call (j := 8) (Divide5_down (a * 100000000 * 1000) (p * t) A73 c74 A83 c84 w87 (H85.rdRow 6 rfl) (H85.rdRow 8 rfl) (Nat.le_trans hN78 (by decide)) (Nat.le_trans hN88 (by decide)) (by have := Nat.mul_pos (show 0 < p by omega) (show 0 < t by omega); omega)) (by kernel_rfl) rfl (fun e_ w89 hR => ?_)
    obtain ⟨rfl, H91⟩ := hR
    have H90 : Hp w [] [.row (some ⟨p22, 0, none⟩) 1 1 22 1 (dg [a]), .row (some ⟨p44, 0, none⟩) 3 3 22 1 (dg [a, p, t]), .row A48 (ndg (a * p * t)) c49 22 1 (dg (digs (a * p * t))), .row (some ⟨p54, 0, none⟩) 2 2 22 1 (dg [100000000, 1000]), .row A58 (ndg (100000000 * 1000)) c59 22 1 (dg (digs (100000000 * 1000))), .row (some ⟨p69, 0, none⟩) 3 3 22 1 (dg [a, 100000000, 1000]), .row A73 (ndg (a * 100000000 * 1000)) c74 22 1 (dg (digs (a * 100000000 * 1000))), .row (some ⟨p79, 0, none⟩) 2 2 22 1 (dg [p, t]), .row A83 (ndg (p * t)) c84 22 1 (dg (digs (p * t)))] w89 := H85.callNil H91
    refine ⟨_, rfl, [0, 1, 2, 7, 8, 9, 10, 12, 13, 66], [(0, .int .u64 (a : Int)), (1, .int .u64 (p : Int)), (2, .int .u64 (t : Int)), (7, .int .u64 (((needV a p t) : Nat) : Int)), (8, .int .i64 (((needE a p t) : Nat) : Int)), (9, .int .u64 (((roomV a p t) : Nat) : Int)), (10, .int .i64 (((roomE a p t) : Nat) : Int)), (12, .int .u64 (((divV (a * p * t) (100000000 * 1000) true) : Nat) : Int)), (13, .bool (divF (a * p * t) (100000000 * 1000) true)), (66, .tuple #[.int .u64 (((divV (a * 100000000 * 1000) (p * t) false) : Nat) : Int), .bool (divF (a * 100000000 * 1000) (p * t) false)])], by kernel_rfl, ?_⟩
    refine GL.run (j := 13) 5 [0, 1, 2, 7, 8, 9, 10, 12, 13, 14, 15] [(0, .int .u64 (a : Int)), (1, .int .u64 (p : Int)), (2, .int .u64 (t : Int)), (7, .int .u64 (((needV a p t) : Nat) : Int)), (8, .int .i64 (((needE a p t) : Nat) : Int)), (9, .int .u64 (((roomV a p t) : Nat) : Int)), (10, .int .i64 (((roomE a p t) : Nat) : Int)), (12, .int .u64 (((divV (a * p * t) (100000000 * 1000) true) : Nat) : Int)), (13, .bool (divF (a * p * t) (100000000 * 1000) true)), (14, .int .u64 (((divV (a * 100000000 * 1000) (p * t) false) : Nat) : Int)), (15, .bool (divF (a * 100000000 * 1000) (p * t) false))] (by kernel_rfl) rfl ?_
    refine GL.k rfl hK68 (fun _ _ h => h) ?_
    refine G.seqK fun K92 hK93 => ?_
    refine G.seqK fun K94 hK95 => ?_
    refine G.region ?_
    refine GL.run (j := 4) 4 [0, 1, 2, 7, 8, 9, 10, 14, 15, 69, 70, 71, 72] [(0, .int .u64 (a : Int)), (1, .int .u64 (p : Int)), (2, .int .u64 (t : Int)), (7, .int .u64 (((needV a p t) : Nat) : Int)), (8, .int .i64 (((needE a p t) : Nat) : Int)), (9, .int .u64 (((roomV a p t) : Nat) : Int)), (10, .int .i64 (((roomE a p t) : Nat) : Int)), (14, .int .u64 (((divV (a * 100000000 * 1000) (p * t) false) : Nat) : Int)), (15, .bool (divF (a * 100000000 * 1000) (p * t) false)), (69, .int .u64 (((needV a p t) : Nat) : Int)), (70, .int .i64 (((needE a p t) : Nat) : Int)), (71, .int .u64 (((divV (a * p * t) (100000000 * 1000) true) : Nat) : Int)), (72, .bool (divF (a * p * t) (100000000 * 1000) true))] (by kernel_rfl) rfl ?_
    refine GL.call (j := 5) (told_calls (needV a p t) (needE a p t) (divV (a * p * t) (100000000 * 1000) true) true (divF (a * p * t) (100000000 * 1000) true) (fun h => by cases h) (fun _ => need_yes hR) w89) (by kernel_rfl) rfl (fun e_ w96 hR => ?_)
    obtain ⟨rfl, H98⟩ := hR
    have H97 : Hp w [] [.row (some ⟨p22, 0, none⟩) 1 1 22 1 (dg [a]), .row (some ⟨p44, 0, none⟩) 3 3 22 1 (dg [a, p, t]), .row A48 (ndg (a * p * t)) c49 22 1 (dg (digs (a * p * t))), .row (some ⟨p54, 0, none⟩) 2 2 22 1 (dg [100000000, 1000]), .row A58 (ndg (100000000 * 1000)) c59 22 1 (dg (digs (100000000 * 1000))), .row (some ⟨p69, 0, none⟩) 3 3 22 1 (dg [a, 100000000, 1000]), .row A73 (ndg (a * 100000000 * 1000)) c74 22 1 (dg (digs (a * 100000000 * 1000))), .row (some ⟨p79, 0, none⟩) 2 2 22 1 (dg [p, t]), .row A83 (ndg (p * t)) c84 22 1 (dg (digs (p * t)))] w96 := H90.callNil H98
    refine ⟨_, rfl, [0, 1, 2, 7, 8, 9, 10, 14, 15, 73], [(0, .int .u64 (a : Int)), (1, .int .u64 (p : Int)), (2, .int .u64 (t : Int)), (7, .int .u64 (((needV a p t) : Nat) : Int)), (8, .int .i64 (((needE a p t) : Nat) : Int)), (9, .int .u64 (((roomV a p t) : Nat) : Int)), (10, .int .i64 (((roomE a p t) : Nat) : Int)), (14, .int .u64 (((divV (a * 100000000 * 1000) (p * t) false) : Nat) : Int)), (15, .bool (divF (a * 100000000 * 1000) (p * t) false)), (73, .bool true)], by kernel_rfl, ?_⟩
    refine GL.run (j := 11) 6 [0, 1, 2, 7, 8, 9, 10, 75, 76, 77, 78, 79] [(0, .int .u64 (a : Int)), (1, .int .u64 (p : Int)), (2, .int .u64 (t : Int)), (7, .int .u64 (((needV a p t) : Nat) : Int)), (8, .int .i64 (((needE a p t) : Nat) : Int)), (9, .int .u64 (((roomV a p t) : Nat) : Int)), (10, .int .i64 (((roomE a p t) : Nat) : Int)), (75, .bool false), (76, .int .u64 (((roomV a p t) : Nat) : Int)), (77, .int .i64 (((roomE a p t) : Nat) : Int)), (78, .int .u64 (((divV (a * 100000000 * 1000) (p * t) false) : Nat) : Int)), (79, .bool (divF (a * 100000000 * 1000) (p * t) false))] (by kernel_rfl) rfl ?_
    refine GL.call (j := 12) (told_calls (roomV a p t) (roomE a p t) (divV (a * 100000000 * 1000) (p * t) false) true (divF (a * 100000000 * 1000) (p * t) false) (fun h => by cases h) (fun _ => room_yes hR) w96) (by kernel_rfl) rfl (fun e_ w99 hR => ?_)
    obtain ⟨rfl, H101⟩ := hR
    have H100 : Hp w [] [.row (some ⟨p22, 0, none⟩) 1 1 22 1 (dg [a]), .row (some ⟨p44, 0, none⟩) 3 3 22 1 (dg [a, p, t]), .row A48 (ndg (a * p * t)) c49 22 1 (dg (digs (a * p * t))), .row (some ⟨p54, 0, none⟩) 2 2 22 1 (dg [100000000, 1000]), .row A58 (ndg (100000000 * 1000)) c59 22 1 (dg (digs (100000000 * 1000))), .row (some ⟨p69, 0, none⟩) 3 3 22 1 (dg [a, 100000000, 1000]), .row A73 (ndg (a * 100000000 * 1000)) c74 22 1 (dg (digs (a * 100000000 * 1000))), .row (some ⟨p79, 0, none⟩) 2 2 22 1 (dg [p, t]), .row A83 (ndg (p * t)) c84 22 1 (dg (digs (p * t)))] w99 := H97.callNil H101
    refine ⟨_, rfl, [0, 1, 2, 7, 8, 9, 10, 75, 80], [(0, .int .u64 (a : Int)), (1, .int .u64 (p : Int)), (2, .int .u64 (t : Int)), (7, .int .u64 (((needV a p t) : Nat) : Int)), (8, .int .i64 (((needE a p t) : Nat) : Int)), (9, .int .u64 (((roomV a p t) : Nat) : Int)), (10, .int .i64 (((roomE a p t) : Nat) : Int)), (75, .bool false), (80, .bool true)], by kernel_rfl, ?_⟩
    refine GL.run (j := 14) 2 [0, 1, 2, 7, 8, 9, 10, 82] [(0, .int .u64 (a : Int)), (1, .int .u64 (p : Int)), (2, .int .u64 (t : Int)), (7, .int .u64 (((needV a p t) : Nat) : Int)), (8, .int .i64 (((needE a p t) : Nat) : Int)), (9, .int .u64 (((roomV a p t) : Nat) : Int)), (10, .int .i64 (((roomE a p t) : Nat) : Int)), (82, .bool false)] (by kernel_rfl) rfl ?_
    refine GL.k rfl hK95 (fun _ _ h => h) ?_
    refine G.no rfl ?_
    refine G.skipK hK93 (fun _ _ h => h) ?_
    refine G.seqK fun K102 hK103 => ?_
    refine G.seqK fun K104 hK105 => ?_
    refine G.region ?_
    refine GL.run (j := 3) 3 [0, 1, 2, 7, 9, 10, 85] [(0, .int .u64 (a : Int)), (1, .int .u64 (p : Int)), (2, .int .u64 (t : Int)), (7, .int .u64 (((needV a p t) : Nat) : Int)), (9, .int .u64 (((roomV a p t) : Nat) : Int)), (10, .int .i64 (((roomE a p t) : Nat) : Int)), (85, .bool ((((needE a p t) : Nat) : Int) == 0))] (by kernel_rfl) rfl ?_
    cases hb106 : ((((needE a p t) : Nat) : Int) == 0)
    · skip
      have hb106f := ne_of_beq_false hb106
      refine GL.run (j := 22) 19 [0, 1, 2, 9, 10, 104] [(0, .int .u64 (a : Int)), (1, .int .u64 (p : Int)), (2, .int .u64 (t : Int)), (9, .int .u64 (((roomV a p t) : Nat) : Int)), (10, .int .i64 (((roomE a p t) : Nat) : Int)), (104, .bool false)] (by kernel_rfl) rfl ?_
      refine GL.k rfl hK105 (fun _ _ h => h) ?_
      refine G.no rfl ?_
      refine G.skipK hK103 (fun _ _ h => h) ?_
      refine G.seqK fun K107 hK108 => ?_
      refine G.region ?_
      refine GL.run (j := 3) 3 [0, 1, 2, 9, 107] [(0, .int .u64 (a : Int)), (1, .int .u64 (p : Int)), (2, .int .u64 (t : Int)), (9, .int .u64 (((roomV a p t) : Nat) : Int)), (107, .bool ((((roomE a p t) : Nat) : Int) != 0))] (by kernel_rfl) rfl ?_
      cases hb109 : ((((roomE a p t) : Nat) : Int) != 0)
      · skip
        have hb109f : (((roomE a p t) : Nat) : Int) = 0 := by simpa using hb109
        have hM := room_ok hR (by omega)
        refine GL.run (j := 7) 4 [0, 1, 2, 9, 107, 108, 109, 110, 111] [(0, .int .u64 (a : Int)), (1, .int .u64 (p : Int)), (2, .int .u64 (t : Int)), (9, .int .u64 (((roomV a p t) : Nat) : Int)), (107, .bool false), (108, .int .u64 (a : Int)), (109, .int .u64 (((roomV a p t) : Nat) : Int)), (110, .int .u64 (p : Int)), (111, .int .u64 (t : Int))] (by kernel_rfl) rfl ?_
        refine GL.call (j := 8) (Enough_calls a (roomV a p t) p t ha (by omega) hp ht w99) (by kernel_rfl) rfl (fun e_ w110 hR => ?_)
        obtain ⟨rfl, H112⟩ := hR
        have H111 : Hp w [] [.row (some ⟨p22, 0, none⟩) 1 1 22 1 (dg [a]), .row (some ⟨p44, 0, none⟩) 3 3 22 1 (dg [a, p, t]), .row A48 (ndg (a * p * t)) c49 22 1 (dg (digs (a * p * t))), .row (some ⟨p54, 0, none⟩) 2 2 22 1 (dg [100000000, 1000]), .row A58 (ndg (100000000 * 1000)) c59 22 1 (dg (digs (100000000 * 1000))), .row (some ⟨p69, 0, none⟩) 3 3 22 1 (dg [a, 100000000, 1000]), .row A73 (ndg (a * 100000000 * 1000)) c74 22 1 (dg (digs (a * 100000000 * 1000))), .row (some ⟨p79, 0, none⟩) 2 2 22 1 (dg [p, t]), .row A83 (ndg (p * t)) c84 22 1 (dg (digs (p * t)))] w110 := H100.callNil H112
        refine ⟨_, rfl, [0, 1, 2, 9, 107, 112], [(0, .int .u64 (a : Int)), (1, .int .u64 (p : Int)), (2, .int .u64 (t : Int)), (9, .int .u64 (((roomV a p t) : Nat) : Int)), (107, .bool false), (112, .bool (enough a (roomV a p t) p t))], by kernel_rfl, ?_⟩
        refine GL.run (j := 9) 1 [0, 1, 2, 9, 107, 113] [(0, .int .u64 (a : Int)), (1, .int .u64 (p : Int)), (2, .int .u64 (t : Int)), (9, .int .u64 (((roomV a p t) : Nat) : Int)), (107, .bool false), (113, .bool (enough a (roomV a p t) p t))] (by kernel_rfl) rfl ?_
        have hb113 : (enough a (roomV a p t) p t) = true := hM.2.1
        rw [hb113]
        refine GL.run (j := 12) 3 [0, 1, 2, 9, 107, 113, 116] [(0, .int .u64 (a : Int)), (1, .int .u64 (p : Int)), (2, .int .u64 (t : Int)), (9, .int .u64 (((roomV a p t) : Nat) : Int)), (107, .bool false), (113, .bool true), (116, .bool ((((roomV a p t) : Nat) : Int) == 4611686018427387904))] (by kernel_rfl) rfl ?_
        cases hb114 : ((((roomV a p t) : Nat) : Int) == 4611686018427387904)
        · skip
          have hb114f := ne_of_beq_false hb114
          refine GL.run (j := 17) 5 [107, 113, 116, 117, 119, 120, 121] [(107, .bool false), (113, .bool true), (116, .bool false), (117, .int .u64 (a : Int)), (119, .int .u64 (IntKind.u64.wrap ((((roomV a p t) : Nat) : Int) + 1))), (120, .int .u64 (p : Int)), (121, .int .u64 (t : Int))] (by kernel_rfl) rfl ?_
          have e115 : (IntKind.u64.wrap ((((roomV a p t) : Nat) : Int) + 1)) = (((roomV a p t) + 1 : Nat) : Int) := n_add' (b := 1) (by omega)
          refine GL.eq (M' := [(107, .bool false), (113, .bool true), (116, .bool false), (117, .int .u64 (a : Int)), (119, .int .u64 (((roomV a p t) + 1 : Nat) : Int)), (120, .int .u64 (p : Int)), (121, .int .u64 (t : Int))]) (by rw [e115]) ?_
          clear e115
          refine GL.call (j := 18) (Enough_calls a ((roomV a p t) + 1) p t ha (by omega) hp ht w110) (by kernel_rfl) rfl (fun e_ w116 hR => ?_)
          obtain ⟨rfl, H118⟩ := hR
          have H117 : Hp w [] [.row (some ⟨p22, 0, none⟩) 1 1 22 1 (dg [a]), .row (some ⟨p44, 0, none⟩) 3 3 22 1 (dg [a, p, t]), .row A48 (ndg (a * p * t)) c49 22 1 (dg (digs (a * p * t))), .row (some ⟨p54, 0, none⟩) 2 2 22 1 (dg [100000000, 1000]), .row A58 (ndg (100000000 * 1000)) c59 22 1 (dg (digs (100000000 * 1000))), .row (some ⟨p69, 0, none⟩) 3 3 22 1 (dg [a, 100000000, 1000]), .row A73 (ndg (a * 100000000 * 1000)) c74 22 1 (dg (digs (a * 100000000 * 1000))), .row (some ⟨p79, 0, none⟩) 2 2 22 1 (dg [p, t]), .row A83 (ndg (p * t)) c84 22 1 (dg (digs (p * t)))] w116 := H111.callNil H118
          refine ⟨_, rfl, [107, 113, 116, 122], [(107, .bool false), (113, .bool true), (116, .bool false), (122, .bool (enough a ((roomV a p t) + 1) p t))], by kernel_rfl, ?_⟩
          refine GL.run (j := 23) 5 [6] [(6, .bool (!(enough a ((roomV a p t) + 1) p t)))] (by kernel_rfl) rfl ?_
          refine GL.k rfl hK108 (fun _ _ h => h) ?_
          refine G.ret ?_
          intro F_ hF_ hM_
          refine hRet _ _ (bodyPost_1 rfl (RV.tmp rfl) ?_ F_ hF_ hM_)
          have hb119 : (!(enough a ((roomV a p t) + 1) p t)) = true := by rw [show (enough a ((roomV a p t) + 1) p t) = false from hM.2.2]; rfl
          rw [hb119]
          exact ⟨rfl, H117.sub (List.nil_sublist _)⟩
        · skip
          have hb114f := eq_of_beq hb114
          refine GL.run (j := 23) 11 [6] [(6, .bool true)] (by kernel_rfl) rfl ?_
          refine GL.k rfl hK108 (fun _ _ h => h) ?_
          refine G.ret ?_
          intro F_ hF_ hM_
          refine hRet _ _ (bodyPost_1 rfl (RV.tmp rfl) ?_ F_ hF_ hM_)
          exact ⟨rfl, H111.sub (List.nil_sublist _)⟩
      · skip
        have hb109f : (((roomE a p t) : Nat) : Int) ≠ 0 := by simpa using hb109
        refine GL.run (j := 23) 20 [6] [(6, .bool true)] (by kernel_rfl) rfl ?_
        refine GL.k rfl hK108 (fun _ _ h => h) ?_
        refine G.ret ?_
        intro F_ hF_ hM_
        refine hRet _ _ (bodyPost_1 rfl (RV.tmp rfl) ?_ F_ hF_ hM_)
        exact ⟨rfl, H100.sub (List.nil_sublist _)⟩
    · skip
      have hb106f := eq_of_beq hb106
      have hN := need_ok hR (by omega)
      refine GL.run (j := 7) 4 [0, 1, 2, 7, 9, 10, 85, 86, 87, 88, 89] [(0, .int .u64 (a : Int)), (1, .int .u64 (p : Int)), (2, .int .u64 (t : Int)), (7, .int .u64 (((needV a p t) : Nat) : Int)), (9, .int .u64 (((roomV a p t) : Nat) : Int)), (10, .int .i64 (((roomE a p t) : Nat) : Int)), (85, .bool true), (86, .int .u64 (((needV a p t) : Nat) : Int)), (87, .int .u64 (a : Int)), (88, .int .u64 (p : Int)), (89, .int .u64 (t : Int))] (by kernel_rfl) rfl ?_
      refine GL.call (j := 8) (Enough_calls (needV a p t) a p t (by omega) ha hp ht w99) (by kernel_rfl) rfl (fun e_ w120 hR => ?_)
      obtain ⟨rfl, H122⟩ := hR
      have H121 : Hp w [] [.row (some ⟨p22, 0, none⟩) 1 1 22 1 (dg [a]), .row (some ⟨p44, 0, none⟩) 3 3 22 1 (dg [a, p, t]), .row A48 (ndg (a * p * t)) c49 22 1 (dg (digs (a * p * t))), .row (some ⟨p54, 0, none⟩) 2 2 22 1 (dg [100000000, 1000]), .row A58 (ndg (100000000 * 1000)) c59 22 1 (dg (digs (100000000 * 1000))), .row (some ⟨p69, 0, none⟩) 3 3 22 1 (dg [a, 100000000, 1000]), .row A73 (ndg (a * 100000000 * 1000)) c74 22 1 (dg (digs (a * 100000000 * 1000))), .row (some ⟨p79, 0, none⟩) 2 2 22 1 (dg [p, t]), .row A83 (ndg (p * t)) c84 22 1 (dg (digs (p * t)))] w120 := H100.callNil H122
      refine ⟨_, rfl, [0, 1, 2, 7, 9, 10, 85, 90], [(0, .int .u64 (a : Int)), (1, .int .u64 (p : Int)), (2, .int .u64 (t : Int)), (7, .int .u64 (((needV a p t) : Nat) : Int)), (9, .int .u64 (((roomV a p t) : Nat) : Int)), (10, .int .i64 (((roomE a p t) : Nat) : Int)), (85, .bool true), (90, .bool (enough (needV a p t) a p t))], by kernel_rfl, ?_⟩
      refine GL.run (j := 10) 2 [0, 1, 2, 7, 9, 10, 85, 92] [(0, .int .u64 (a : Int)), (1, .int .u64 (p : Int)), (2, .int .u64 (t : Int)), (7, .int .u64 (((needV a p t) : Nat) : Int)), (9, .int .u64 (((roomV a p t) : Nat) : Int)), (10, .int .i64 (((roomE a p t) : Nat) : Int)), (85, .bool true), (92, .bool (!(enough (needV a p t) a p t)))] (by kernel_rfl) rfl ?_
      have hb123 : (!(enough (needV a p t) a p t)) = false := by rw [show (enough (needV a p t) a p t) = true from hN.2.1]; rfl
      rw [hb123]
      refine GL.run (j := 13) 3 [0, 1, 2, 7, 9, 10, 85, 92, 95] [(0, .int .u64 (a : Int)), (1, .int .u64 (p : Int)), (2, .int .u64 (t : Int)), (7, .int .u64 (((needV a p t) : Nat) : Int)), (9, .int .u64 (((roomV a p t) : Nat) : Int)), (10, .int .i64 (((roomE a p t) : Nat) : Int)), (85, .bool true), (92, .bool false), (95, .bool (decide (0 < (((needV a p t) : Nat) : Int))))] (by kernel_rfl) rfl ?_
      cases hb124 : (decide (0 < (((needV a p t) : Nat) : Int)))
      · skip
        have hb124f := of_decide_eq_false hb124
        refine GL.run (j := 22) 9 [0, 1, 2, 9, 10, 104] [(0, .int .u64 (a : Int)), (1, .int .u64 (p : Int)), (2, .int .u64 (t : Int)), (9, .int .u64 (((roomV a p t) : Nat) : Int)), (10, .int .i64 (((roomE a p t) : Nat) : Int)), (104, .bool false)] (by kernel_rfl) rfl ?_
        refine GL.k rfl hK105 (fun _ _ h => h) ?_
        refine G.no rfl ?_
        refine G.skipK hK103 (fun _ _ h => h) ?_
        refine G.seqK fun K125 hK126 => ?_
        refine G.region ?_
        refine GL.run (j := 3) 3 [0, 1, 2, 9, 107] [(0, .int .u64 (a : Int)), (1, .int .u64 (p : Int)), (2, .int .u64 (t : Int)), (9, .int .u64 (((roomV a p t) : Nat) : Int)), (107, .bool ((((roomE a p t) : Nat) : Int) != 0))] (by kernel_rfl) rfl ?_
        cases hb127 : ((((roomE a p t) : Nat) : Int) != 0)
        · skip
          have hb127f : (((roomE a p t) : Nat) : Int) = 0 := by simpa using hb127
          have hM := room_ok hR (by omega)
          refine GL.run (j := 7) 4 [0, 1, 2, 9, 107, 108, 109, 110, 111] [(0, .int .u64 (a : Int)), (1, .int .u64 (p : Int)), (2, .int .u64 (t : Int)), (9, .int .u64 (((roomV a p t) : Nat) : Int)), (107, .bool false), (108, .int .u64 (a : Int)), (109, .int .u64 (((roomV a p t) : Nat) : Int)), (110, .int .u64 (p : Int)), (111, .int .u64 (t : Int))] (by kernel_rfl) rfl ?_
          refine GL.call (j := 8) (Enough_calls a (roomV a p t) p t ha (by omega) hp ht w120) (by kernel_rfl) rfl (fun e_ w128 hR => ?_)
          obtain ⟨rfl, H130⟩ := hR
          have H129 : Hp w [] [.row (some ⟨p22, 0, none⟩) 1 1 22 1 (dg [a]), .row (some ⟨p44, 0, none⟩) 3 3 22 1 (dg [a, p, t]), .row A48 (ndg (a * p * t)) c49 22 1 (dg (digs (a * p * t))), .row (some ⟨p54, 0, none⟩) 2 2 22 1 (dg [100000000, 1000]), .row A58 (ndg (100000000 * 1000)) c59 22 1 (dg (digs (100000000 * 1000))), .row (some ⟨p69, 0, none⟩) 3 3 22 1 (dg [a, 100000000, 1000]), .row A73 (ndg (a * 100000000 * 1000)) c74 22 1 (dg (digs (a * 100000000 * 1000))), .row (some ⟨p79, 0, none⟩) 2 2 22 1 (dg [p, t]), .row A83 (ndg (p * t)) c84 22 1 (dg (digs (p * t)))] w128 := H121.callNil H130
          refine ⟨_, rfl, [0, 1, 2, 9, 107, 112], [(0, .int .u64 (a : Int)), (1, .int .u64 (p : Int)), (2, .int .u64 (t : Int)), (9, .int .u64 (((roomV a p t) : Nat) : Int)), (107, .bool false), (112, .bool (enough a (roomV a p t) p t))], by kernel_rfl, ?_⟩
          refine GL.run (j := 9) 1 [0, 1, 2, 9, 107, 113] [(0, .int .u64 (a : Int)), (1, .int .u64 (p : Int)), (2, .int .u64 (t : Int)), (9, .int .u64 (((roomV a p t) : Nat) : Int)), (107, .bool false), (113, .bool (enough a (roomV a p t) p t))] (by kernel_rfl) rfl ?_
          have hb131 : (enough a (roomV a p t) p t) = true := hM.2.1
          rw [hb131]
          refine GL.run (j := 12) 3 [0, 1, 2, 9, 107, 113, 116] [(0, .int .u64 (a : Int)), (1, .int .u64 (p : Int)), (2, .int .u64 (t : Int)), (9, .int .u64 (((roomV a p t) : Nat) : Int)), (107, .bool false), (113, .bool true), (116, .bool ((((roomV a p t) : Nat) : Int) == 4611686018427387904))] (by kernel_rfl) rfl ?_
          cases hb132 : ((((roomV a p t) : Nat) : Int) == 4611686018427387904)
          · skip
            have hb132f := ne_of_beq_false hb132
            refine GL.run (j := 17) 5 [107, 113, 116, 117, 119, 120, 121] [(107, .bool false), (113, .bool true), (116, .bool false), (117, .int .u64 (a : Int)), (119, .int .u64 (IntKind.u64.wrap ((((roomV a p t) : Nat) : Int) + 1))), (120, .int .u64 (p : Int)), (121, .int .u64 (t : Int))] (by kernel_rfl) rfl ?_
            have e133 : (IntKind.u64.wrap ((((roomV a p t) : Nat) : Int) + 1)) = (((roomV a p t) + 1 : Nat) : Int) := n_add' (b := 1) (by omega)
            refine GL.eq (M' := [(107, .bool false), (113, .bool true), (116, .bool false), (117, .int .u64 (a : Int)), (119, .int .u64 (((roomV a p t) + 1 : Nat) : Int)), (120, .int .u64 (p : Int)), (121, .int .u64 (t : Int))]) (by rw [e133]) ?_
            clear e133
            refine GL.call (j := 18) (Enough_calls a ((roomV a p t) + 1) p t ha (by omega) hp ht w128) (by kernel_rfl) rfl (fun e_ w134 hR => ?_)
            obtain ⟨rfl, H136⟩ := hR
            have H135 : Hp w [] [.row (some ⟨p22, 0, none⟩) 1 1 22 1 (dg [a]), .row (some ⟨p44, 0, none⟩) 3 3 22 1 (dg [a, p, t]), .row A48 (ndg (a * p * t)) c49 22 1 (dg (digs (a * p * t))), .row (some ⟨p54, 0, none⟩) 2 2 22 1 (dg [100000000, 1000]), .row A58 (ndg (100000000 * 1000)) c59 22 1 (dg (digs (100000000 * 1000))), .row (some ⟨p69, 0, none⟩) 3 3 22 1 (dg [a, 100000000, 1000]), .row A73 (ndg (a * 100000000 * 1000)) c74 22 1 (dg (digs (a * 100000000 * 1000))), .row (some ⟨p79, 0, none⟩) 2 2 22 1 (dg [p, t]), .row A83 (ndg (p * t)) c84 22 1 (dg (digs (p * t)))] w134 := H129.callNil H136
            refine ⟨_, rfl, [107, 113, 116, 122], [(107, .bool false), (113, .bool true), (116, .bool false), (122, .bool (enough a ((roomV a p t) + 1) p t))], by kernel_rfl, ?_⟩
            refine GL.run (j := 23) 5 [6] [(6, .bool (!(enough a ((roomV a p t) + 1) p t)))] (by kernel_rfl) rfl ?_
            refine GL.k rfl hK126 (fun _ _ h => h) ?_
            refine G.ret ?_
            intro F_ hF_ hM_
            refine hRet _ _ (bodyPost_1 rfl (RV.tmp rfl) ?_ F_ hF_ hM_)
            have hb137 : (!(enough a ((roomV a p t) + 1) p t)) = true := by rw [show (enough a ((roomV a p t) + 1) p t) = false from hM.2.2]; rfl
            rw [hb137]
            exact ⟨rfl, H135.sub (List.nil_sublist _)⟩
          · skip
            have hb132f := eq_of_beq hb132
            refine GL.run (j := 23) 11 [6] [(6, .bool true)] (by kernel_rfl) rfl ?_
            refine GL.k rfl hK126 (fun _ _ h => h) ?_
            refine G.ret ?_
            intro F_ hF_ hM_
            refine hRet _ _ (bodyPost_1 rfl (RV.tmp rfl) ?_ F_ hF_ hM_)
            exact ⟨rfl, H129.sub (List.nil_sublist _)⟩
        · skip
          have hb127f : (((roomE a p t) : Nat) : Int) ≠ 0 := by simpa using hb127
          refine GL.run (j := 23) 20 [6] [(6, .bool true)] (by kernel_rfl) rfl ?_
          refine GL.k rfl hK126 (fun _ _ h => h) ?_
          refine G.ret ?_
          intro F_ hF_ hM_
          refine hRet _ _ (bodyPost_1 rfl (RV.tmp rfl) ?_ F_ hF_ hM_)
          exact ⟨rfl, H121.sub (List.nil_sublist _)⟩
      · skip
        have hb124f := of_decide_eq_true hb124
        refine GL.run (j := 18) 5 [0, 1, 2, 9, 10, 85, 92, 95, 97, 98, 99, 100] [(0, .int .u64 (a : Int)), (1, .int .u64 (p : Int)), (2, .int .u64 (t : Int)), (9, .int .u64 (((roomV a p t) : Nat) : Int)), (10, .int .i64 (((roomE a p t) : Nat) : Int)), (85, .bool true), (92, .bool false), (95, .bool true), (97, .int .u64 (IntKind.u64.wrap ((((needV a p t) : Nat) : Int) - 1))), (98, .int .u64 (a : Int)), (99, .int .u64 (p : Int)), (100, .int .u64 (t : Int))] (by kernel_rfl) rfl ?_
        have e138 : (IntKind.u64.wrap ((((needV a p t) : Nat) : Int) - 1)) = (((needV a p t) - 1 : Nat) : Int) := n_sub (b := 1) (by omega) (by omega)
        refine GL.eq (M' := [(0, .int .u64 (a : Int)), (1, .int .u64 (p : Int)), (2, .int .u64 (t : Int)), (9, .int .u64 (((roomV a p t) : Nat) : Int)), (10, .int .i64 (((roomE a p t) : Nat) : Int)), (85, .bool true), (92, .bool false), (95, .bool true), (97, .int .u64 (((needV a p t) - 1 : Nat) : Int)), (98, .int .u64 (a : Int)), (99, .int .u64 (p : Int)), (100, .int .u64 (t : Int))]) (by rw [e138]) ?_
        clear e138
        refine GL.call (j := 19) (Enough_calls ((needV a p t) - 1) a p t (by omega) ha hp ht w120) (by kernel_rfl) rfl (fun e_ w139 hR => ?_)
        obtain ⟨rfl, H141⟩ := hR
        have H140 : Hp w [] [.row (some ⟨p22, 0, none⟩) 1 1 22 1 (dg [a]), .row (some ⟨p44, 0, none⟩) 3 3 22 1 (dg [a, p, t]), .row A48 (ndg (a * p * t)) c49 22 1 (dg (digs (a * p * t))), .row (some ⟨p54, 0, none⟩) 2 2 22 1 (dg [100000000, 1000]), .row A58 (ndg (100000000 * 1000)) c59 22 1 (dg (digs (100000000 * 1000))), .row (some ⟨p69, 0, none⟩) 3 3 22 1 (dg [a, 100000000, 1000]), .row A73 (ndg (a * 100000000 * 1000)) c74 22 1 (dg (digs (a * 100000000 * 1000))), .row (some ⟨p79, 0, none⟩) 2 2 22 1 (dg [p, t]), .row A83 (ndg (p * t)) c84 22 1 (dg (digs (p * t)))] w139 := H121.callNil H141
        refine ⟨_, rfl, [0, 1, 2, 9, 10, 85, 92, 95, 101], [(0, .int .u64 (a : Int)), (1, .int .u64 (p : Int)), (2, .int .u64 (t : Int)), (9, .int .u64 (((roomV a p t) : Nat) : Int)), (10, .int .i64 (((roomE a p t) : Nat) : Int)), (85, .bool true), (92, .bool false), (95, .bool true), (101, .bool (enough ((needV a p t) - 1) a p t))], by kernel_rfl, ?_⟩
        refine GL.run (j := 22) 3 [0, 1, 2, 9, 10, 104] [(0, .int .u64 (a : Int)), (1, .int .u64 (p : Int)), (2, .int .u64 (t : Int)), (9, .int .u64 (((roomV a p t) : Nat) : Int)), (10, .int .i64 (((roomE a p t) : Nat) : Int)), (104, .bool (enough ((needV a p t) - 1) a p t))] (by kernel_rfl) rfl ?_
        refine GL.k rfl hK105 (fun _ _ h => h) ?_
        have hb142 : (enough ((needV a p t) - 1) a p t) = false := hN.2.2 (by omega)
        rw [hb142]
        refine G.no rfl ?_
        refine G.skipK hK103 (fun _ _ h => h) ?_
        refine G.seqK fun K143 hK144 => ?_
        refine G.region ?_
        refine GL.run (j := 3) 3 [0, 1, 2, 9, 107] [(0, .int .u64 (a : Int)), (1, .int .u64 (p : Int)), (2, .int .u64 (t : Int)), (9, .int .u64 (((roomV a p t) : Nat) : Int)), (107, .bool ((((roomE a p t) : Nat) : Int) != 0))] (by kernel_rfl) rfl ?_
        cases hb145 : ((((roomE a p t) : Nat) : Int) != 0)
        · skip
          have hb145f : (((roomE a p t) : Nat) : Int) = 0 := by simpa using hb145
          have hM := room_ok hR (by omega)
          refine GL.run (j := 7) 4 [0, 1, 2, 9, 107, 108, 109, 110, 111] [(0, .int .u64 (a : Int)), (1, .int .u64 (p : Int)), (2, .int .u64 (t : Int)), (9, .int .u64 (((roomV a p t) : Nat) : Int)), (107, .bool false), (108, .int .u64 (a : Int)), (109, .int .u64 (((roomV a p t) : Nat) : Int)), (110, .int .u64 (p : Int)), (111, .int .u64 (t : Int))] (by kernel_rfl) rfl ?_
          refine GL.call (j := 8) (Enough_calls a (roomV a p t) p t ha (by omega) hp ht w139) (by kernel_rfl) rfl (fun e_ w146 hR => ?_)
          obtain ⟨rfl, H148⟩ := hR
          have H147 : Hp w [] [.row (some ⟨p22, 0, none⟩) 1 1 22 1 (dg [a]), .row (some ⟨p44, 0, none⟩) 3 3 22 1 (dg [a, p, t]), .row A48 (ndg (a * p * t)) c49 22 1 (dg (digs (a * p * t))), .row (some ⟨p54, 0, none⟩) 2 2 22 1 (dg [100000000, 1000]), .row A58 (ndg (100000000 * 1000)) c59 22 1 (dg (digs (100000000 * 1000))), .row (some ⟨p69, 0, none⟩) 3 3 22 1 (dg [a, 100000000, 1000]), .row A73 (ndg (a * 100000000 * 1000)) c74 22 1 (dg (digs (a * 100000000 * 1000))), .row (some ⟨p79, 0, none⟩) 2 2 22 1 (dg [p, t]), .row A83 (ndg (p * t)) c84 22 1 (dg (digs (p * t)))] w146 := H140.callNil H148
          refine ⟨_, rfl, [0, 1, 2, 9, 107, 112], [(0, .int .u64 (a : Int)), (1, .int .u64 (p : Int)), (2, .int .u64 (t : Int)), (9, .int .u64 (((roomV a p t) : Nat) : Int)), (107, .bool false), (112, .bool (enough a (roomV a p t) p t))], by kernel_rfl, ?_⟩
          refine GL.run (j := 9) 1 [0, 1, 2, 9, 107, 113] [(0, .int .u64 (a : Int)), (1, .int .u64 (p : Int)), (2, .int .u64 (t : Int)), (9, .int .u64 (((roomV a p t) : Nat) : Int)), (107, .bool false), (113, .bool (enough a (roomV a p t) p t))] (by kernel_rfl) rfl ?_
          have hb149 : (enough a (roomV a p t) p t) = true := hM.2.1
          rw [hb149]
          refine GL.run (j := 12) 3 [0, 1, 2, 9, 107, 113, 116] [(0, .int .u64 (a : Int)), (1, .int .u64 (p : Int)), (2, .int .u64 (t : Int)), (9, .int .u64 (((roomV a p t) : Nat) : Int)), (107, .bool false), (113, .bool true), (116, .bool ((((roomV a p t) : Nat) : Int) == 4611686018427387904))] (by kernel_rfl) rfl ?_
          cases hb150 : ((((roomV a p t) : Nat) : Int) == 4611686018427387904)
          · skip
            have hb150f := ne_of_beq_false hb150
            refine GL.run (j := 17) 5 [107, 113, 116, 117, 119, 120, 121] [(107, .bool false), (113, .bool true), (116, .bool false), (117, .int .u64 (a : Int)), (119, .int .u64 (IntKind.u64.wrap ((((roomV a p t) : Nat) : Int) + 1))), (120, .int .u64 (p : Int)), (121, .int .u64 (t : Int))] (by kernel_rfl) rfl ?_
            have e151 : (IntKind.u64.wrap ((((roomV a p t) : Nat) : Int) + 1)) = (((roomV a p t) + 1 : Nat) : Int) := n_add' (b := 1) (by omega)
            refine GL.eq (M' := [(107, .bool false), (113, .bool true), (116, .bool false), (117, .int .u64 (a : Int)), (119, .int .u64 (((roomV a p t) + 1 : Nat) : Int)), (120, .int .u64 (p : Int)), (121, .int .u64 (t : Int))]) (by rw [e151]) ?_
            clear e151
            refine GL.call (j := 18) (Enough_calls a ((roomV a p t) + 1) p t ha (by omega) hp ht w146) (by kernel_rfl) rfl (fun e_ w152 hR => ?_)
            obtain ⟨rfl, H154⟩ := hR
            have H153 : Hp w [] [.row (some ⟨p22, 0, none⟩) 1 1 22 1 (dg [a]), .row (some ⟨p44, 0, none⟩) 3 3 22 1 (dg [a, p, t]), .row A48 (ndg (a * p * t)) c49 22 1 (dg (digs (a * p * t))), .row (some ⟨p54, 0, none⟩) 2 2 22 1 (dg [100000000, 1000]), .row A58 (ndg (100000000 * 1000)) c59 22 1 (dg (digs (100000000 * 1000))), .row (some ⟨p69, 0, none⟩) 3 3 22 1 (dg [a, 100000000, 1000]), .row A73 (ndg (a * 100000000 * 1000)) c74 22 1 (dg (digs (a * 100000000 * 1000))), .row (some ⟨p79, 0, none⟩) 2 2 22 1 (dg [p, t]), .row A83 (ndg (p * t)) c84 22 1 (dg (digs (p * t)))] w152 := H147.callNil H154
            refine ⟨_, rfl, [107, 113, 116, 122], [(107, .bool false), (113, .bool true), (116, .bool false), (122, .bool (enough a ((roomV a p t) + 1) p t))], by kernel_rfl, ?_⟩
            refine GL.run (j := 23) 5 [6] [(6, .bool (!(enough a ((roomV a p t) + 1) p t)))] (by kernel_rfl) rfl ?_
            refine GL.k rfl hK144 (fun _ _ h => h) ?_
            refine G.ret ?_
            intro F_ hF_ hM_
            refine hRet _ _ (bodyPost_1 rfl (RV.tmp rfl) ?_ F_ hF_ hM_)
            have hb155 : (!(enough a ((roomV a p t) + 1) p t)) = true := by rw [show (enough a ((roomV a p t) + 1) p t) = false from hM.2.2]; rfl
            rw [hb155]
            exact ⟨rfl, H153.sub (List.nil_sublist _)⟩
          · skip
            have hb150f := eq_of_beq hb150
            refine GL.run (j := 23) 11 [6] [(6, .bool true)] (by kernel_rfl) rfl ?_
            refine GL.k rfl hK144 (fun _ _ h => h) ?_
            refine G.ret ?_
            intro F_ hF_ hM_
            refine hRet _ _ (bodyPost_1 rfl (RV.tmp rfl) ?_ F_ hF_ hM_)
            exact ⟨rfl, H147.sub (List.nil_sublist _)⟩
        · skip
          have hb145f : (((roomE a p t) : Nat) : Int) ≠ 0 := by simpa using hb145
          refine GL.run (j := 23) 20 [6] [(6, .bool true)] (by kernel_rfl) rfl ?_
          refine GL.k rfl hK144 (fun _ _ h => h) ?_
          refine G.ret ?_
          intro F_ hF_ hM_
          refine hRet _ _ (bodyPost_1 rfl (RV.tmp rfl) ?_ F_ hF_ hM_)
          exact ⟨rfl, H140.sub (List.nil_sublist _)⟩
end Go.Proofs.Ytfhjoojifjmnlaa
