/- Whatever prices are told: the walk. -/
import Derived.Test.YtljfofnpjmlobaaMore
import Derived.Test.YtljfofnpjmlobaaNd
import Derived.Test.YtljfofnpjmlobaaGl
namespace Go.Proofs.Ytljfofnpjmlobaa
open Go.RowKit
set_option maxHeartbeats 4000000 in
theorem OraclePlays_bad (m g : Nat) (hmK : m < K) (hgK : g < K) (hb : ¬ (m ≤ 1000 ∧ g ≤ 1099511627776)) (A : Option Addr) (n c0 : Nat) (xs : List Value) (k f h : Nat → Nat) (w : World) (hr : RdS w A xs) (hx : xs.length = n * 3) (hn : n ≤ 9223372036854775807) (hk : ∀ i, k i < 2 ^ 64) (hf : ∀ i, f i < 2 ^ 64) (hh : ∀ i, h i < 2 ^ 64) (hel : ∀ i, i < n → (xs.drop (i * 3)).take 3 = [.int .u64 ((k i : Nat) : Int), .int .u64 ((f i : Nat) : Int), .int .u64 ((h i : Nat) : Int)]) : Calls Try.prog 4 #[.agg #[.int .u64 (m : Int), .int .u64 (g : Int)], .slice A n c0] w fun e w' => e = .returned (.bool true) ∧ Hp w [] [] w' := by
  have hMX : MX = 4611686018427387904 := rfl
  have hK0 : K = 18446744073709551616 := rfl
  have hK40 : K4 = 115792089237316195423570985008687907853269984665640564039457584007913129639936 := rfl
  refine calls_G (args := [.agg #[.int .u64 (m : Int), .int .u64 (g : Int)], .slice A n c0]) Try.func4 rfl Try.ntmps4 rfl ?_
  intro Q0 hRet hNor hPan
  have H := Hp.start w
  have H : Hp w [] [] w := H
  refine G.seqK fun K1 hK2 => ?_
  refine G.region ?_
  obtain ⟨p3, w4, r5, H6⟩ := H.box (P := Try.prog) 30 [.int .u64 (m : Int), .int .u64 (g : Int)] (.agg #[.int .u64 (m : Int), .int .u64 (g : Int)]) rfl
  have H6 : Hp w [] [.blk p3 [.int .u64 (m : Int), .int .u64 (g : Int)] 30] w4 := H6
  refine GL.sem (j := 1) (r5) [1, 2] [(1, .slice A n c0), (2, pt p3 0)] (by kernel_rfl) (by kernel_rfl) rfl ?_
  refine GL.run (j := 2) 1 [1, 2] [(1, .slice A n c0), (2, pt p3 0)] (by kernel_rfl) rfl ?_
  refine GL.k rfl hK2 (fun _ _ h => h) ?_
  refine G.seqK fun K7 hK8 => ?_
  refine G.seqK fun K9 hK10 => ?_
  refine G.region ?_
  refine GL.call (j := 1) (lives_calls w4) (by kernel_rfl) rfl (fun e_ w11 hR => ?_)
  obtain ⟨rfl, H13⟩ := hR
  have H12 : Hp w [] [.blk p3 [.int .u64 (m : Int), .int .u64 (g : Int)] 30] w11 := H6.callNil H13
  refine ⟨_, rfl, [1, 2, 32], [(1, .slice A n c0), (2, pt p3 0), (32, .bool true)], by kernel_rfl, ?_⟩
  refine GL.run (j := 7) 6 [1, 2, 38] [(1, .slice A n c0), (2, pt p3 0), (38, .bool (decide (40 < (n : Int))))] (by kernel_rfl) rfl ?_
  refine GL.k rfl hK10 (fun _ _ h => h) ?_
  cases hb14 : (decide (40 < (n : Int)))
  · skip
    have hb14f := of_decide_eq_false hb14
    refine G.no rfl ?_
    refine G.skipK hK8 (fun _ _ h => h) ?_
    refine G.seqK fun K15 hK16 => ?_
    refine G.region ?_
    refine GL.sem (j := 1) (H12.ldA (o := 0) (ty := 30) (m := 2) (sub := [.int .u64 (m : Int), .int .u64 (g : Int)]) 0 rfl (by kernel_rfl) rfl rfl) [1, 2, 41] [(1, .slice A n c0), (2, pt p3 0), (41, .agg #[.int .u64 (m : Int), .int .u64 (g : Int)])] (by kernel_rfl) (by kernel_rfl) rfl ?_
    refine GL.call (j := 2) (New_bad m g hb w11) (by kernel_rfl) rfl (fun e_ w17 hR => ?_)
    obtain ⟨rfl, H19⟩ := hR
    have H18 : Hp w [] [.blk p3 [.int .u64 (m : Int), .int .u64 (g : Int)] 30] w17 := H12.callNil H19
    refine ⟨_, rfl, [1, 2, 42], [(1, .slice A n c0), (2, pt p3 0), (42, .tuple #[.pointer none, .int .i64 1])], by kernel_rfl, ?_⟩
    refine GL.run (j := 7) 5 [1, 2, 5, 6] [(1, .slice A n c0), (2, pt p3 0), (5, .pointer none), (6, .int .i64 1)] (by kernel_rfl) rfl ?_
    refine GL.k rfl hK16 (fun _ _ h => h) ?_
    refine G.seqK fun K20 hK21 => ?_
    refine G.seqK fun K22 hK23 => ?_
    refine G.region ?_
    refine GL.run (j := 1) 1 [1, 2, 5, 6, 45] [(1, .slice A n c0), (2, pt p3 0), (5, .pointer none), (6, .int .i64 1), (45, pt p3 0)] (by kernel_rfl) rfl ?_
    refine GL.sem (j := 2) (H18.ld (o := 0) (ty := 22) (v := .int .u64 (m : Int)) 0 rfl (by kernel_rfl) rfl) [1, 2, 5, 6, 46] [(1, .slice A n c0), (2, pt p3 0), (5, .pointer none), (6, .int .i64 1), (46, .int .u64 (m : Int))] (by kernel_rfl) (by kernel_rfl) rfl ?_
    refine GL.run (j := 4) 2 [1, 2, 5, 6, 48] [(1, .slice A n c0), (2, pt p3 0), (5, .pointer none), (6, .int .i64 1), (48, .bool (decide (1000 < (m : Int))))] (by kernel_rfl) rfl ?_
    cases hb24 : (decide (1000 < (m : Int)))
    · skip
      have hb24f := of_decide_eq_false hb24
      refine GL.run (j := 5) 1 [1, 2, 5, 6, 48, 49] [(1, .slice A n c0), (2, pt p3 0), (5, .pointer none), (6, .int .i64 1), (48, .bool false), (49, pt p3 1)] (by kernel_rfl) rfl ?_
      refine GL.sem (j := 6) (H18.ld (o := 1) (ty := 22) (v := .int .u64 (g : Int)) 0 rfl (by kernel_rfl) rfl) [1, 2, 5, 6, 48, 50] [(1, .slice A n c0), (2, pt p3 0), (5, .pointer none), (6, .int .i64 1), (48, .bool false), (50, .int .u64 (g : Int))] (by kernel_rfl) (by kernel_rfl) rfl ?_
      refine GL.run (j := 8) 2 [1, 2, 5, 6, 52] [(1, .slice A n c0), (2, pt p3 0), (5, .pointer none), (6, .int .i64 1), (52, .bool (decide (1099511627776 < (g : Int))))] (by kernel_rfl) rfl ?_
      refine GL.k rfl hK23 (fun _ _ h => h) ?_
      cases hb25 : (decide (1099511627776 < (g : Int)))
      · skip
        have hb25f := of_decide_eq_false hb25
        refine G.no rfl ?_
        refine G.skipK hK21 (fun _ _ h => h) ?_
        refine G.seqK fun K26 hK27 => ?_
        refine G.seqK fun K28 hK29 => ?_
        refine G.region ?_
        refine GL.run (j := 2) 2 [1, 2, 5, 60] [(1, .slice A n c0), (2, pt p3 0), (5, .pointer none), (60, .bool true)] (by kernel_rfl) rfl ?_
        refine GL.k rfl hK29 (fun _ _ h => h) ?_
        refine G.yes rfl ?_
        refine G.seqK fun K30 hK31 => ?_
        refine G.region ?_
        refine GL.run (j := 1) 1 [4] [(4, .bool false)] (by kernel_rfl) rfl ?_
        refine GL.k rfl hK31 (fun _ _ h => h) ?_
        refine G.ret ?_
        intro F_ hF_ hM_
        refine hRet _ _ (bodyPost_1 rfl (RV.tmp rfl) ?_ F_ hF_ hM_)
        exfalso
        omega
      · skip
        have hb25f := of_decide_eq_true hb25
        refine G.yes rfl ?_
        refine G.seqK fun K32 hK33 => ?_
        refine G.region ?_
        refine GL.run (j := 7) 7 [4] [(4, .bool true)] (by kernel_rfl) rfl ?_
        refine GL.k rfl hK33 (fun _ _ h => h) ?_
        refine G.ret ?_
        intro F_ hF_ hM_
        refine hRet _ _ (bodyPost_1 rfl (RV.tmp rfl) ?_ F_ hF_ hM_)
        exact ⟨rfl, H18.sub (List.nil_sublist _)⟩
    · skip
      have hb24f := of_decide_eq_true hb24
      refine GL.run (j := 8) 4 [1, 2, 5, 6, 52] [(1, .slice A n c0), (2, pt p3 0), (5, .pointer none), (6, .int .i64 1), (52, .bool true)] (by kernel_rfl) rfl ?_
      refine GL.k rfl hK23 (fun _ _ h => h) ?_
      refine G.yes rfl ?_
      refine G.seqK fun K34 hK35 => ?_
      refine G.region ?_
      refine GL.run (j := 7) 7 [4] [(4, .bool true)] (by kernel_rfl) rfl ?_
      refine GL.k rfl hK35 (fun _ _ h => h) ?_
      refine G.ret ?_
      intro F_ hF_ hM_
      refine hRet _ _ (bodyPost_1 rfl (RV.tmp rfl) ?_ F_ hF_ hM_)
      exact ⟨rfl, H18.sub (List.nil_sublist _)⟩
  · skip
    have hb14f := of_decide_eq_true hb14
    refine G.yes rfl ?_
    refine G.seqK fun K36 hK37 => ?_
    refine G.region ?_
    refine GL.call (j := 1) (lives_calls w11) (by kernel_rfl) rfl (fun e_ w38 hR => ?_)
    obtain ⟨rfl, H40⟩ := hR
    have H39 : Hp w [] [.blk p3 [.int .u64 (m : Int), .int .u64 (g : Int)] 30] w38 := H12.callNil H40
    refine ⟨_, rfl, [39], [(39, .bool true)], by kernel_rfl, ?_⟩
    refine GL.run (j := 2) 1 [4] [(4, .bool true)] (by kernel_rfl) rfl ?_
    refine GL.k rfl hK37 (fun _ _ h => h) ?_
    refine G.ret ?_
    intro F_ hF_ hM_
    refine hRet _ _ (bodyPost_1 rfl (RV.tmp rfl) ?_ F_ hF_ hM_)
    exact ⟨rfl, H39.sub (List.nil_sublist _)⟩
set_option maxHeartbeats 4000000 in
theorem OraclePlays_ok (m g : Nat) (hmK : m < K) (hgK : g < K) (hm : m ≤ 1000) (hg : g ≤ 1099511627776) (A : Option Addr) (n c0 : Nat) (xs : List Value) (k f h : Nat → Nat) (w : World) (hr : RdS w A xs) (hx : xs.length = n * 3) (hn : n ≤ 9223372036854775807) (hk : ∀ i, k i < 2 ^ 64) (hf : ∀ i, f i < 2 ^ 64) (hh : ∀ i, h i < 2 ^ 64) (hel : ∀ i, i < n → (xs.drop (i * 3)).take 3 = [.int .u64 ((k i : Nat) : Int), .int .u64 ((f i : Nat) : Int), .int .u64 ((h i : Nat) : Int)]) : Calls Try.prog 4 #[.agg #[.int .u64 (m : Int), .int .u64 (g : Int)], .slice A n c0] w fun e w' => e = .returned (.bool true) ∧ Hp w [] [] w' := by
  have hMX : MX = 4611686018427387904 := rfl
  have hK0 : K = 18446744073709551616 := rfl
  have hK40 : K4 = 115792089237316195423570985008687907853269984665640564039457584007913129639936 := rfl
  refine calls_G (args := [.agg #[.int .u64 (m : Int), .int .u64 (g : Int)], .slice A n c0]) Try.func4 rfl Try.ntmps4 rfl ?_
  intro Q0 hRet hNor hPan
  have H := Hp.start w
  have H : Hp w [] [] w := H
  refine G.seqK fun K1 hK2 => ?_
  refine G.region ?_
  obtain ⟨p3, w4, r5, H6⟩ := H.box (P := Try.prog) 30 [.int .u64 (m : Int), .int .u64 (g : Int)] (.agg #[.int .u64 (m : Int), .int .u64 (g : Int)]) rfl
  have H6 : Hp w [] [.blk p3 [.int .u64 (m : Int), .int .u64 (g : Int)] 30] w4 := H6
  refine GL.sem (j := 1) (r5) [1, 2] [(1, .slice A n c0), (2, pt p3 0)] (by kernel_rfl) (by kernel_rfl) rfl ?_
  refine GL.run (j := 2) 1 [1, 2] [(1, .slice A n c0), (2, pt p3 0)] (by kernel_rfl) rfl ?_
  refine GL.k rfl hK2 (fun _ _ h => h) ?_
  refine G.seqK fun K7 hK8 => ?_
  refine G.seqK fun K9 hK10 => ?_
  refine G.region ?_
  refine GL.call (j := 1) (lives_calls w4) (by kernel_rfl) rfl (fun e_ w11 hR => ?_)
  obtain ⟨rfl, H13⟩ := hR
  have H12 : Hp w [] [.blk p3 [.int .u64 (m : Int), .int .u64 (g : Int)] 30] w11 := H6.callNil H13
  refine ⟨_, rfl, [1, 2, 32], [(1, .slice A n c0), (2, pt p3 0), (32, .bool true)], by kernel_rfl, ?_⟩
  refine GL.run (j := 7) 6 [1, 2, 38] [(1, .slice A n c0), (2, pt p3 0), (38, .bool (decide (40 < (n : Int))))] (by kernel_rfl) rfl ?_
  refine GL.k rfl hK10 (fun _ _ h => h) ?_
  cases hb14 : (decide (40 < (n : Int)))
  · skip
    have hb14f := of_decide_eq_false hb14
    refine G.no rfl ?_
    refine G.skipK hK8 (fun _ _ h => h) ?_
    refine G.seqK fun K15 hK16 => ?_
    refine G.region ?_
    refine GL.sem (j := 1) (H12.ldA (o := 0) (ty := 30) (m := 2) (sub := [.int .u64 (m : Int), .int .u64 (g : Int)]) 0 rfl (by kernel_rfl) rfl rfl) [1, 2, 41] [(1, .slice A n c0), (2, pt p3 0), (41, .agg #[.int .u64 (m : Int), .int .u64 (g : Int)])] (by kernel_rfl) (by kernel_rfl) rfl ?_
    refine GL.call (j := 2) (New_calls m g (by omega) (by omega) w11) (by kernel_rfl) rfl (fun e_ w18 hR => ?_)
    obtain ⟨p17, rfl, H20⟩ := hR
    have H19 : Hp w [] [.blk p3 [.int .u64 (m : Int), .int .u64 (g : Int)] 30, .blk p17 [.int .u64 (m : Int), .int .u64 (g : Int), .int .u64 0, .int .u64 0] 46] w18 := H12.callNew H20
    refine ⟨_, rfl, [1, 2, 42], [(1, .slice A n c0), (2, pt p3 0), (42, .tuple #[pt p17 0, .int .i64 0])], by kernel_rfl, ?_⟩
    refine GL.run (j := 7) 5 [1, 2, 5, 6] [(1, .slice A n c0), (2, pt p3 0), (5, pt p17 0), (6, .int .i64 0)] (by kernel_rfl) rfl ?_
    refine GL.k rfl hK16 (fun _ _ h => h) ?_
    refine G.seqK fun K21 hK22 => ?_
    refine G.seqK fun K23 hK24 => ?_
    refine G.region ?_
    refine GL.run (j := 1) 1 [1, 2, 5, 6, 45] [(1, .slice A n c0), (2, pt p3 0), (5, pt p17 0), (6, .int .i64 0), (45, pt p3 0)] (by kernel_rfl) rfl ?_
    refine GL.sem (j := 2) (H19.ld (o := 0) (ty := 22) (v := .int .u64 (m : Int)) 0 rfl (by kernel_rfl) rfl) [1, 2, 5, 6, 46] [(1, .slice A n c0), (2, pt p3 0), (5, pt p17 0), (6, .int .i64 0), (46, .int .u64 (m : Int))] (by kernel_rfl) (by kernel_rfl) rfl ?_
    refine GL.run (j := 4) 2 [1, 2, 5, 6, 48] [(1, .slice A n c0), (2, pt p3 0), (5, pt p17 0), (6, .int .i64 0), (48, .bool (decide (1000 < (m : Int))))] (by kernel_rfl) rfl ?_
    cases hb25 : (decide (1000 < (m : Int)))
    · skip
      have hb25f := of_decide_eq_false hb25
      refine GL.run (j := 5) 1 [1, 2, 5, 6, 48, 49] [(1, .slice A n c0), (2, pt p3 0), (5, pt p17 0), (6, .int .i64 0), (48, .bool false), (49, pt p3 1)] (by kernel_rfl) rfl ?_
      refine GL.sem (j := 6) (H19.ld (o := 1) (ty := 22) (v := .int .u64 (g : Int)) 0 rfl (by kernel_rfl) rfl) [1, 2, 5, 6, 48, 50] [(1, .slice A n c0), (2, pt p3 0), (5, pt p17 0), (6, .int .i64 0), (48, .bool false), (50, .int .u64 (g : Int))] (by kernel_rfl) (by kernel_rfl) rfl ?_
      refine GL.run (j := 8) 2 [1, 2, 5, 6, 52] [(1, .slice A n c0), (2, pt p3 0), (5, pt p17 0), (6, .int .i64 0), (52, .bool (decide (1099511627776 < (g : Int))))] (by kernel_rfl) rfl ?_
      refine GL.k rfl hK24 (fun _ _ h => h) ?_
      cases hb26 : (decide (1099511627776 < (g : Int)))
      · skip
        have hb26f := of_decide_eq_false hb26
        refine G.no rfl ?_
        refine G.skipK hK22 (fun _ _ h => h) ?_
        refine G.seqK fun K27 hK28 => ?_
        refine G.seqK fun K29 hK30 => ?_
        refine G.region ?_
        refine GL.run (j := 2) 2 [1, 2, 5, 60] [(1, .slice A n c0), (2, pt p3 0), (5, pt p17 0), (60, .bool false)] (by kernel_rfl) rfl ?_
        refine GL.k rfl hK30 (fun _ _ h => h) ?_
        refine G.no rfl ?_
        refine G.skipK hK28 (fun _ _ h => h) ?_
        refine G.seqK fun K31 hK32 => ?_
        refine G.region ?_
        refine GL.run (j := 1) 1 [1, 2, 5, 7] [(1, .slice A n c0), (2, pt p3 0), (5, pt p17 0), (7, .int .u64 0)] (by kernel_rfl) rfl ?_
        refine GL.k rfl hK32 (fun _ _ h => h) ?_
        refine G.seqK fun K33 hK34 => ?_
        refine G.region ?_
        refine GL.run (j := 1) 1 [1, 2, 5, 7, 8] [(1, .slice A n c0), (2, pt p3 0), (5, pt p17 0), (7, .int .u64 0), (8, .int .u64 0)] (by kernel_rfl) rfl ?_
        refine GL.k rfl hK34 (fun _ _ h => h) ?_
        refine G.seqK fun K35 hK36 => ?_
        refine G.seqK fun K37 hK38 => ?_
        refine G.region ?_
        refine GL.run (j := 3) 3 [2, 5, 7, 8, 61, 62, 63] [(2, pt p3 0), (5, pt p17 0), (7, .int .u64 0), (8, .int .u64 0), (61, .slice A n c0), (62, .int .i64 (n : Int)), (63, .int .i64 0)] (by kernel_rfl) rfl ?_
        refine GL.k rfl hK38 (fun _ _ h => h) ?_
        refine G.block ?_
        refine G.fit [2, 5, 7, 8, 61, 62, 63] (M' := [(2, pt p3 0), (5, pt p17 0), (7, .int .u64 0), (8, .int .u64 0), (61, .slice A n c0), (62, .int .i64 (n : Int)), (63, .int .i64 0)]) (by kernel_rfl) ?_
        refine G.loop (X := Nat × Nat × Nat) (fun ⟨j, p, t⟩ => [(2, pt p3 0), (5, pt p17 0), (7, .int .u64 (p : Int)), (8, .int .u64 (t : Int)), (61, .slice A n c0), (62, .int .i64 (n : Int)), (63, .int .i64 (j : Int))]) (fun ⟨j, p, t⟩ w_ => (j ≤ n ∧ p ≤ 1099511627776 ∧ t ≤ 1099511627776) ∧ Hp w [] [.blk p3 [.int .u64 (m : Int), .int .u64 (g : Int)] 30, .blk p17 [.int .u64 (m : Int), .int .u64 (g : Int), .int .u64 (p : Int), .int .u64 (t : Int)] 46] w_) (fun ⟨j, p, t⟩ => n - j) ⟨0, 0, 0⟩ [2, 5, 7, 8, 61, 62, 63] (by kernel_rfl) ⟨⟨Nat.zero_le _, Nat.zero_le _, Nat.zero_le _⟩, H19⟩ ?_
        rintro ⟨j, p, t⟩ w39 ⟨hi40, H41⟩
        refine G.eq (M' := [(2, pt p3 0), (5, pt p17 0), (7, .int .u64 (p : Int)), (8, .int .u64 (t : Int)), (61, .slice A n c0), (62, .int .i64 (n : Int)), (63, .int .i64 (j : Int))]) rfl ?_
        have H41 : Hp w [] [.blk p3 [.int .u64 (m : Int), .int .u64 (g : Int)] 30, .blk p17 [.int .u64 (m : Int), .int .u64 (g : Int), .int .u64 (p : Int), .int .u64 (t : Int)] 46] w39 := H41
        obtain ⟨hjn, hp, ht⟩ := hi40
        have hkj := hk j
        have hfj := hf j
        have hhj := hh j
        have cW := want_cases m p t (k j) (f j)
        have cS := set_cases m p t (k j) (f j)
        have eWS : setE m p t (k j) (f j) = wantE m p t (k j) (f j) := want_set hp
        refine G.seqK fun K42 hK43 => ?_
        refine G.region ?_
        refine GL.run (j := 1) 1 [2, 5, 7, 8, 61, 62, 63, 64] [(2, pt p3 0), (5, pt p17 0), (7, .int .u64 (p : Int)), (8, .int .u64 (t : Int)), (61, .slice A n c0), (62, .int .i64 (n : Int)), (63, .int .i64 (j : Int)), (64, .bool (decide ((j : Int) < (n : Int))))] (by kernel_rfl) rfl ?_
        refine GL.k rfl hK43 (fun _ _ h => h) ?_
        refine G.seqK fun K44 hK45 => ?_
        cases hb46 : (decide ((j : Int) < (n : Int)))
        · skip
          have hb46f := of_decide_eq_false hb46
          refine G.no rfl ?_
          refine G.exitK hK36 (fun _ _ h => h) ?_
          refine G.seqK fun K47 hK48 => ?_
          refine G.region ?_
          refine GL.run (j := 1) 1 [5, 7, 221] [(5, pt p17 0), (7, .int .u64 (p : Int)), (221, pt p17 0)] (by kernel_rfl) rfl ?_
          refine GL.call (j := 2) (Copy_calls p17 m g p t w39 (H41.blkAt 1 rfl)) (by kernel_rfl) rfl (fun e_ w49 hR => ?_)
          obtain ⟨p52, rfl, H51⟩ := hR
          have H50 : Hp w [] [.blk p3 [.int .u64 (m : Int), .int .u64 (g : Int)] 30, .blk p17 [.int .u64 (m : Int), .int .u64 (g : Int), .int .u64 (p : Int), .int .u64 (t : Int)] 46, .blk p52 [.int .u64 (m : Int), .int .u64 (g : Int), .int .u64 (p : Int), .int .u64 (t : Int)] 46] w49 := H41.callNew H51
          refine ⟨_, rfl, [5, 7, 222], [(5, pt p17 0), (7, .int .u64 (p : Int)), (222, pt p52 0)], by kernel_rfl, ?_⟩
          refine GL.run (j := 3) 1 [5, 7, 20] [(5, pt p17 0), (7, .int .u64 (p : Int)), (20, pt p52 0)] (by kernel_rfl) rfl ?_
          refine GL.k rfl hK48 (fun _ _ h => h) ?_
          refine G.seqK fun K53 hK54 => ?_
          refine G.region ?_
          refine GL.run (j := 3) 3 [5, 7, 223, 225] [(5, pt p17 0), (7, .int .u64 (p : Int)), (223, pt p52 0), (225, .int .u64 (if (1 : Int) > (p : Int) then (1 : Int) else (p : Int)))] (by kernel_rfl) rfl ?_
          have e55 : (if (1 : Int) > (p : Int) then (1 : Int) else (p : Int)) = (((max p 1) : Nat) : Int) := max_int p 1
          refine GL.eq (M' := [(5, pt p17 0), (7, .int .u64 (p : Int)), (223, pt p52 0), (225, .int .u64 (((max p 1) : Nat) : Int))]) (by rw [e55]) ?_
          clear e55
          have hcw56 := set_cases m p t (max p 1) 1099511627776
          refine GL.call (j := 4) (Set_calls p52 m g p t (max p 1) 1099511627776 (by omega) (by omega) (by omega) (by omega) (by omega) w49 (H50.blkAt 2 rfl)) (by kernel_rfl) rfl (fun e_ w56 hR => ?_)
          obtain ⟨rfl, H58⟩ := hR
          have H57 : Hp w [] [.blk p3 [.int .u64 (m : Int), .int .u64 (g : Int)] 30, .blk p17 [.int .u64 (m : Int), .int .u64 (g : Int), .int .u64 (p : Int), .int .u64 (t : Int)] 46, .blk p52 [.int .u64 (m : Int), .int .u64 (g : Int), .int .u64 (((setP m p t (max p 1) 1099511627776) : Nat) : Int), .int .u64 (((setT m p t (max p 1) 1099511627776) : Nat) : Int)] 46] w56 := H50.callIn 2 rfl H58
          refine ⟨_, rfl, [5, 7], [(5, pt p17 0), (7, .int .u64 (p : Int))], by kernel_rfl, ?_⟩
          refine GL.k rfl hK54 (fun _ _ h => h) ?_
          refine G.seqK fun K59 hK60 => ?_
          refine G.region ?_
          refine GL.run (j := 1) 1 [7, 228] [(7, .int .u64 (p : Int)), (228, pt p17 0)] (by kernel_rfl) rfl ?_
          refine GL.call (j := 2) (Last_calls p17 m g p t w56 (H57.blkAt 1 rfl)) (by kernel_rfl) rfl (fun e_ w61 hR => ?_)
          obtain ⟨rfl, H63⟩ := hR
          have H62 : Hp w [] [.blk p3 [.int .u64 (m : Int), .int .u64 (g : Int)] 30, .blk p17 [.int .u64 (m : Int), .int .u64 (g : Int), .int .u64 (p : Int), .int .u64 (t : Int)] 46, .blk p52 [.int .u64 (m : Int), .int .u64 (g : Int), .int .u64 (((setP m p t (max p 1) 1099511627776) : Nat) : Int), .int .u64 (((setT m p t (max p 1) 1099511627776) : Nat) : Int)] 46] w61 := H57.callIn 1 rfl H63
          refine ⟨_, rfl, [7, 229], [(7, .int .u64 (p : Int)), (229, .tuple #[.int .u64 (p : Int), .int .u64 (t : Int), .bool (decide (0 < p))])], by kernel_rfl, ?_⟩
          refine GL.run (j := 9) 7 [7, 21] [(7, .int .u64 (p : Int)), (21, .int .u64 (p : Int))] (by kernel_rfl) rfl ?_
          refine GL.k rfl hK60 (fun _ _ h => h) ?_
          refine G.seqK fun K64 hK65 => ?_
          refine G.region ?_
          refine GL.run (j := 1) 1 [7, 21, 24] [(7, .int .u64 (p : Int)), (21, .int .u64 (p : Int)), (24, .pointer none)] (by kernel_rfl) rfl ?_
          refine GL.k rfl hK65 (fun _ _ h => h) ?_
          refine G.seqK fun K66 hK67 => ?_
          refine G.region ?_
          refine GL.run (j := 1) 1 [7, 21, 24, 234] [(7, .int .u64 (p : Int)), (21, .int .u64 (p : Int)), (24, .pointer none), (234, .pointer none)] (by kernel_rfl) rfl ?_
          refine GL.call (j := 2) (Price_nil 0 w61) (by kernel_rfl) rfl (fun e_ w68 hR => ?_)
          obtain ⟨rfl, H70⟩ := hR
          have H69 : Hp w [] [.blk p3 [.int .u64 (m : Int), .int .u64 (g : Int)] 30, .blk p17 [.int .u64 (m : Int), .int .u64 (g : Int), .int .u64 (p : Int), .int .u64 (t : Int)] 46, .blk p52 [.int .u64 (m : Int), .int .u64 (g : Int), .int .u64 (((setP m p t (max p 1) 1099511627776) : Nat) : Int), .int .u64 (((setT m p t (max p 1) 1099511627776) : Nat) : Int)] 46] w68 := H62.callNil H70
          refine ⟨_, rfl, [7, 21, 24, 235], [(7, .int .u64 (p : Int)), (21, .int .u64 (p : Int)), (24, .pointer none), (235, .tuple #[.int .u64 0, .int .i64 1])], by kernel_rfl, ?_⟩
          refine GL.run (j := 7) 5 [7, 21, 24, 26] [(7, .int .u64 (p : Int)), (21, .int .u64 (p : Int)), (24, .pointer none), (26, .int .i64 1)] (by kernel_rfl) rfl ?_
          refine GL.k rfl hK67 (fun _ _ h => h) ?_
          refine G.seqK fun K71 hK72 => ?_
          refine G.region ?_
          refine GL.run (j := 1) 1 [7, 21, 24, 26, 239] [(7, .int .u64 (p : Int)), (21, .int .u64 (p : Int)), (24, .pointer none), (26, .int .i64 1), (239, .pointer none)] (by kernel_rfl) rfl ?_
          refine GL.call (j := 2) (Last_nil w68) (by kernel_rfl) rfl (fun e_ w73 hR => ?_)
          obtain ⟨rfl, H75⟩ := hR
          have H74 : Hp w [] [.blk p3 [.int .u64 (m : Int), .int .u64 (g : Int)] 30, .blk p17 [.int .u64 (m : Int), .int .u64 (g : Int), .int .u64 (p : Int), .int .u64 (t : Int)] 46, .blk p52 [.int .u64 (m : Int), .int .u64 (g : Int), .int .u64 (((setP m p t (max p 1) 1099511627776) : Nat) : Int), .int .u64 (((setT m p t (max p 1) 1099511627776) : Nat) : Int)] 46] w73 := H69.callNil H75
          refine ⟨_, rfl, [7, 21, 24, 26, 240], [(7, .int .u64 (p : Int)), (21, .int .u64 (p : Int)), (24, .pointer none), (26, .int .i64 1), (240, .tuple #[.int .u64 0, .int .u64 0, .bool false])], by kernel_rfl, ?_⟩
          refine GL.run (j := 9) 7 [7, 21, 24, 26, 29] [(7, .int .u64 (p : Int)), (21, .int .u64 (p : Int)), (24, .pointer none), (26, .int .i64 1), (29, .bool false)] (by kernel_rfl) rfl ?_
          refine GL.k rfl hK72 (fun _ _ h => h) ?_
          refine G.seqK fun K76 hK77 => ?_
          refine G.region ?_
          refine GL.run (j := 1) 1 [7, 21, 24, 26, 29, 245] [(7, .int .u64 (p : Int)), (21, .int .u64 (p : Int)), (24, .pointer none), (26, .int .i64 1), (29, .bool false), (245, .pointer none)] (by kernel_rfl) rfl ?_
          refine GL.call (j := 2) (Bounds_nil w73) (by kernel_rfl) rfl (fun e_ w78 hR => ?_)
          obtain ⟨rfl, H80⟩ := hR
          have H79 : Hp w [] [.blk p3 [.int .u64 (m : Int), .int .u64 (g : Int)] 30, .blk p17 [.int .u64 (m : Int), .int .u64 (g : Int), .int .u64 (p : Int), .int .u64 (t : Int)] 46, .blk p52 [.int .u64 (m : Int), .int .u64 (g : Int), .int .u64 (((setP m p t (max p 1) 1099511627776) : Nat) : Int), .int .u64 (((setT m p t (max p 1) 1099511627776) : Nat) : Int)] 46] w78 := H74.callNil H80
          refine ⟨_, rfl, [7, 21, 24, 26, 29, 246], [(7, .int .u64 (p : Int)), (21, .int .u64 (p : Int)), (24, .pointer none), (26, .int .i64 1), (29, .bool false), (246, .tuple #[.int .u64 0, .int .u64 0])], by kernel_rfl, ?_⟩
          refine GL.run (j := 7) 5 [7, 21, 24, 26, 29, 30, 31] [(7, .int .u64 (p : Int)), (21, .int .u64 (p : Int)), (24, .pointer none), (26, .int .i64 1), (29, .bool false), (30, .int .u64 0), (31, .int .u64 0)] (by kernel_rfl) rfl ?_
          refine GL.k rfl hK77 (fun _ _ h => h) ?_
          refine G.seqK fun K81 hK82 => ?_
          refine G.region ?_
          refine GL.run (j := 4) 4 [24, 26, 29, 30, 31, 252] [(24, .pointer none), (26, .int .i64 1), (29, .bool false), (30, .int .u64 0), (31, .int .u64 0), (252, .bool ((p : Int) == (p : Int)))] (by kernel_rfl) rfl ?_
          have hb83 : ((p : Int) == (p : Int)) = true := beq_self_eq_true _
          rw [hb83]
          refine GL.run (j := 5) 1 [24, 26, 29, 30, 31, 252, 253] [(24, .pointer none), (26, .int .i64 1), (29, .bool false), (30, .int .u64 0), (31, .int .u64 0), (252, .bool true), (253, .pointer none)] (by kernel_rfl) rfl ?_
          refine GL.call (j := 6) (Set_nil 1 0 w78) (by kernel_rfl) rfl (fun e_ w84 hR => ?_)
          obtain ⟨rfl, H86⟩ := hR
          have H85 : Hp w [] [.blk p3 [.int .u64 (m : Int), .int .u64 (g : Int)] 30, .blk p17 [.int .u64 (m : Int), .int .u64 (g : Int), .int .u64 (p : Int), .int .u64 (t : Int)] 46, .blk p52 [.int .u64 (m : Int), .int .u64 (g : Int), .int .u64 (((setP m p t (max p 1) 1099511627776) : Nat) : Int), .int .u64 (((setT m p t (max p 1) 1099511627776) : Nat) : Int)] 46] w84 := H79.callNil H86
          refine ⟨_, rfl, [24, 26, 29, 30, 31, 252, 254], [(24, .pointer none), (26, .int .i64 1), (29, .bool false), (30, .int .u64 0), (31, .int .u64 0), (252, .bool true), (254, .int .i64 1)], by kernel_rfl, ?_⟩
          refine GL.run (j := 24) 18 [271, 272] [(271, .bool true), (272, .pointer none)] (by kernel_rfl) rfl ?_
          refine GL.call (j := 25) (Copy_nil w84) (by kernel_rfl) rfl (fun e_ w87 hR => ?_)
          obtain ⟨rfl, H89⟩ := hR
          have H88 : Hp w [] [.blk p3 [.int .u64 (m : Int), .int .u64 (g : Int)] 30, .blk p17 [.int .u64 (m : Int), .int .u64 (g : Int), .int .u64 (p : Int), .int .u64 (t : Int)] 46, .blk p52 [.int .u64 (m : Int), .int .u64 (g : Int), .int .u64 (((setP m p t (max p 1) 1099511627776) : Nat) : Int), .int .u64 (((setT m p t (max p 1) 1099511627776) : Nat) : Int)] 46] w87 := H85.callNil H89
          refine ⟨_, rfl, [271, 273], [(271, .bool true), (273, .pointer none)], by kernel_rfl, ?_⟩
          refine GL.run (j := 28) 3 [4] [(4, .bool true)] (by kernel_rfl) rfl ?_
          refine GL.k rfl hK82 (fun _ _ h => h) ?_
          refine G.ret ?_
          intro F_ hF_ hM_
          refine hRet _ _ (bodyPost_1 rfl (RV.tmp rfl) ?_ F_ hF_ hM_)
          exact ⟨rfl, H88.sub (List.nil_sublist _)⟩
        · skip
          have hb46f := of_decide_eq_true hb46
          refine G.yes rfl ?_
          refine G.skipK hK45 (fun _ _ h => h) ?_
          refine G.seqK fun K91 hK92 => ?_
          refine G.block ?_
          refine G.seqK fun K93 hK94 => ?_
          refine G.region ?_
          refine GL.sem (j := 1) (run_idxRdN (P := Try.prog) (k := .i64) (t := 37) (sz := 3) (A := A) (len := n) (cap := c0) (j := j) (by kernel_rfl) rfl (hr.hp H41) hx (by decide) (by omega)) [2, 5, 7, 8, 61, 62, 63, 65] [(2, pt p3 0), (5, pt p17 0), (7, .int .u64 (p : Int)), (8, .int .u64 (t : Int)), (61, .slice A n c0), (62, .int .i64 (n : Int)), (63, .int .i64 (j : Int)), (65, .pointer (Option.map (fun x => Addr.add x (j * 3)) A))] (by kernel_rfl) (by kernel_rfl) rfl ?_
          refine GL.sem (j := 2) (run_ldRdA (P := Try.prog) (ty := 39) (A := A) (o := (j * 3)) (m := 3) (sub := [.int .u64 ((k j : Nat) : Int), .int .u64 ((f j : Nat) : Int), .int .u64 ((h j : Nat) : Int)]) (by kernel_rfl) (hr.hp H41) (hel j (by omega)) rfl (by decide)) [2, 5, 7, 8, 61, 62, 63, 66] [(2, pt p3 0), (5, pt p17 0), (7, .int .u64 (p : Int)), (8, .int .u64 (t : Int)), (61, .slice A n c0), (62, .int .i64 (n : Int)), (63, .int .i64 (j : Int)), (66, .agg #[.int .u64 ((k j : Nat) : Int), .int .u64 ((f j : Nat) : Int), .int .u64 ((h j : Nat) : Int)])] (by kernel_rfl) (by kernel_rfl) rfl ?_
          obtain ⟨p95, w96, r97, H98⟩ := H41.alloc (P := Try.prog) 39 [.int .u64 0, .int .u64 0, .int .u64 0] (by kernel_rfl)
          have H98 : Hp w [] [.blk p3 [.int .u64 (m : Int), .int .u64 (g : Int)] 30, .blk p17 [.int .u64 (m : Int), .int .u64 (g : Int), .int .u64 (p : Int), .int .u64 (t : Int)] 46, .blk p95 [.int .u64 0, .int .u64 0, .int .u64 0] 39] w96 := H98
          refine GL.sem (j := 3) (r97) [2, 5, 7, 8, 10, 61, 62, 63, 66] [(2, pt p3 0), (5, pt p17 0), (7, .int .u64 (p : Int)), (8, .int .u64 (t : Int)), (10, pt p95 0), (61, .slice A n c0), (62, .int .i64 (n : Int)), (63, .int .i64 (j : Int)), (66, .agg #[.int .u64 ((k j : Nat) : Int), .int .u64 ((f j : Nat) : Int), .int .u64 ((h j : Nat) : Int)])] (by kernel_rfl) (by kernel_rfl) rfl ?_
          obtain ⟨w99, r100, H101⟩ := H98.stA (P := Try.prog) (o := 0) (vs := [.int .u64 ((k j : Nat) : Int), .int .u64 ((f j : Nat) : Int), .int .u64 ((h j : Nat) : Int)]) (ty := 39) (m := 3) 2 rfl (by kernel_rfl) rfl (by simp) (by simp [Value.oneCell'])
          have H101 : Hp w [] [.blk p3 [.int .u64 (m : Int), .int .u64 (g : Int)] 30, .blk p17 [.int .u64 (m : Int), .int .u64 (g : Int), .int .u64 (p : Int), .int .u64 (t : Int)] 46, .blk p95 [.int .u64 ((k j : Nat) : Int), .int .u64 ((f j : Nat) : Int), .int .u64 ((h j : Nat) : Int)] 39] w99 := H101
          refine GL.semU (j := 4) r100 [2, 5, 7, 8, 10, 61, 62, 63] [(2, pt p3 0), (5, pt p17 0), (7, .int .u64 (p : Int)), (8, .int .u64 (t : Int)), (10, pt p95 0), (61, .slice A n c0), (62, .int .i64 (n : Int)), (63, .int .i64 (j : Int))] (by kernel_rfl) rfl rfl rfl ?_
          refine GL.k rfl hK94 (fun _ _ h => h) ?_
          refine G.seqK fun K102 hK103 => ?_
          refine G.region ?_
          refine GL.run (j := 1) 1 [2, 5, 7, 8, 10, 11, 61, 62, 63] [(2, pt p3 0), (5, pt p17 0), (7, .int .u64 (p : Int)), (8, .int .u64 (t : Int)), (10, pt p95 0), (11, .int .i64 0), (61, .slice A n c0), (62, .int .i64 (n : Int)), (63, .int .i64 (j : Int))] (by kernel_rfl) rfl ?_
          refine GL.k rfl hK103 (fun _ _ h => h) ?_
          refine G.seqJ (X := Nat) (fun wn => [(2, pt p3 0), (5, pt p17 0), (7, .int .u64 (p : Int)), (8, .int .u64 (t : Int)), (10, pt p95 0), (11, .int .i64 (wn : Int)), (61, .slice A n c0), (62, .int .i64 (n : Int)), (63, .int .i64 (j : Int))]) (fun wn w_ => (wn = setE m p t (k j) (f j)) ∧ Hp w [] [.blk p3 [.int .u64 (m : Int), .int .u64 (g : Int)] 30, .blk p17 [.int .u64 (m : Int), .int .u64 (g : Int), .int .u64 (p : Int), .int .u64 (t : Int)] 46, .blk p95 [.int .u64 ((k j : Nat) : Int), .int .u64 ((f j : Nat) : Int), .int .u64 ((h j : Nat) : Int)] 39] w_) (fun J104 K105 hK106 => ?_) ?_
          · skip
            refine G.block ?_
            refine G.seqK fun K107 hK108 => ?_
            refine G.region ?_
            refine GL.run (j := 1) 1 [2, 5, 7, 8, 10, 11, 61, 62, 63, 68] [(2, pt p3 0), (5, pt p17 0), (7, .int .u64 (p : Int)), (8, .int .u64 (t : Int)), (10, pt p95 0), (11, .int .i64 0), (61, .slice A n c0), (62, .int .i64 (n : Int)), (63, .int .i64 (j : Int)), (68, pt p95 0)] (by kernel_rfl) rfl ?_
            refine GL.sem (j := 2) (H101.ld (o := 0) (ty := 23) (v := .int .u64 ((k j : Nat) : Int)) 2 rfl (by kernel_rfl) rfl) [2, 5, 7, 8, 10, 11, 61, 62, 63, 69] [(2, pt p3 0), (5, pt p17 0), (7, .int .u64 (p : Int)), (8, .int .u64 (t : Int)), (10, pt p95 0), (11, .int .i64 0), (61, .slice A n c0), (62, .int .i64 (n : Int)), (63, .int .i64 (j : Int)), (69, .int .u64 ((k j : Nat) : Int))] (by kernel_rfl) (by kernel_rfl) rfl ?_
            refine GL.run (j := 4) 2 [2, 5, 7, 8, 10, 11, 61, 62, 63, 71] [(2, pt p3 0), (5, pt p17 0), (7, .int .u64 (p : Int)), (8, .int .u64 (t : Int)), (10, pt p95 0), (11, .int .i64 0), (61, .slice A n c0), (62, .int .i64 (n : Int)), (63, .int .i64 (j : Int)), (71, .bool (decide (((k j : Nat) : Int) < 1)))] (by kernel_rfl) rfl ?_
            cases hb109 : (decide (((k j : Nat) : Int) < 1))
            · skip
              have hb109f := of_decide_eq_false hb109
              refine GL.run (j := 5) 1 [2, 5, 7, 8, 10, 11, 61, 62, 63, 71, 72] [(2, pt p3 0), (5, pt p17 0), (7, .int .u64 (p : Int)), (8, .int .u64 (t : Int)), (10, pt p95 0), (11, .int .i64 0), (61, .slice A n c0), (62, .int .i64 (n : Int)), (63, .int .i64 (j : Int)), (71, .bool false), (72, pt p95 0)] (by kernel_rfl) rfl ?_
              refine GL.sem (j := 6) (H101.ld (o := 0) (ty := 23) (v := .int .u64 ((k j : Nat) : Int)) 2 rfl (by kernel_rfl) rfl) [2, 5, 7, 8, 10, 11, 61, 62, 63, 71, 73] [(2, pt p3 0), (5, pt p17 0), (7, .int .u64 (p : Int)), (8, .int .u64 (t : Int)), (10, pt p95 0), (11, .int .i64 0), (61, .slice A n c0), (62, .int .i64 (n : Int)), (63, .int .i64 (j : Int)), (71, .bool false), (73, .int .u64 ((k j : Nat) : Int))] (by kernel_rfl) (by kernel_rfl) rfl ?_
              refine GL.run (j := 9) 3 [2, 5, 7, 8, 10, 11, 61, 62, 63, 76] [(2, pt p3 0), (5, pt p17 0), (7, .int .u64 (p : Int)), (8, .int .u64 (t : Int)), (10, pt p95 0), (11, .int .i64 0), (61, .slice A n c0), (62, .int .i64 (n : Int)), (63, .int .i64 (j : Int)), (76, .bool (decide (1099511627776 < ((k j : Nat) : Int))))] (by kernel_rfl) rfl ?_
              cases hb110 : (decide (1099511627776 < ((k j : Nat) : Int)))
              · skip
                have hb110f := of_decide_eq_false hb110
                refine GL.run (j := 10) 1 [2, 5, 7, 8, 10, 11, 61, 62, 63, 76, 77] [(2, pt p3 0), (5, pt p17 0), (7, .int .u64 (p : Int)), (8, .int .u64 (t : Int)), (10, pt p95 0), (11, .int .i64 0), (61, .slice A n c0), (62, .int .i64 (n : Int)), (63, .int .i64 (j : Int)), (76, .bool false), (77, pt p95 1)] (by kernel_rfl) rfl ?_
                refine GL.sem (j := 11) (H101.ld (o := 1) (ty := 22) (v := .int .u64 ((f j : Nat) : Int)) 2 rfl (by kernel_rfl) rfl) [2, 5, 7, 8, 10, 11, 61, 62, 63, 76, 78] [(2, pt p3 0), (5, pt p17 0), (7, .int .u64 (p : Int)), (8, .int .u64 (t : Int)), (10, pt p95 0), (11, .int .i64 0), (61, .slice A n c0), (62, .int .i64 (n : Int)), (63, .int .i64 (j : Int)), (76, .bool false), (78, .int .u64 ((f j : Nat) : Int))] (by kernel_rfl) (by kernel_rfl) rfl ?_
                refine GL.run (j := 14) 3 [2, 5, 7, 8, 10, 11, 61, 62, 63, 67] [(2, pt p3 0), (5, pt p17 0), (7, .int .u64 (p : Int)), (8, .int .u64 (t : Int)), (10, pt p95 0), (11, .int .i64 0), (61, .slice A n c0), (62, .int .i64 (n : Int)), (63, .int .i64 (j : Int)), (67, .bool (decide (1099511627776 < ((f j : Nat) : Int))))] (by kernel_rfl) rfl ?_
                refine GL.k rfl hK108 (fun _ _ h => h) ?_
                cases hb111 : (decide (1099511627776 < ((f j : Nat) : Int)))
                · skip
                  have hb111f := of_decide_eq_false hb111
                  refine G.no rfl ?_
                  refine G.seqK fun K112 hK113 => ?_
                  refine G.region ?_
                  refine GL.run (j := 3) 3 [2, 5, 7, 8, 10, 11, 61, 62, 63, 84] [(2, pt p3 0), (5, pt p17 0), (7, .int .u64 (p : Int)), (8, .int .u64 (t : Int)), (10, pt p95 0), (11, .int .i64 0), (61, .slice A n c0), (62, .int .i64 (n : Int)), (63, .int .i64 (j : Int)), (84, .bool (decide (0 < (p : Int))))] (by kernel_rfl) rfl ?_
                  cases hb114 : (decide (0 < (p : Int)))
                  · skip
                    have hb114f := of_decide_eq_false hb114
                    refine GL.run (j := 9) 6 [2, 5, 7, 8, 10, 11, 61, 62, 63, 81] [(2, pt p3 0), (5, pt p17 0), (7, .int .u64 (p : Int)), (8, .int .u64 (t : Int)), (10, pt p95 0), (11, .int .i64 0), (61, .slice A n c0), (62, .int .i64 (n : Int)), (63, .int .i64 (j : Int)), (81, .bool false)] (by kernel_rfl) rfl ?_
                    refine GL.k rfl hK113 (fun _ _ h => h) ?_
                    refine G.no rfl ?_
                    refine G.seqK fun K115 hK116 => ?_
                    refine G.region ?_
                    refine GL.run (j := 3) 3 [2, 5, 7, 8, 10, 11, 61, 62, 63, 93] [(2, pt p3 0), (5, pt p17 0), (7, .int .u64 (p : Int)), (8, .int .u64 (t : Int)), (10, pt p95 0), (11, .int .i64 0), (61, .slice A n c0), (62, .int .i64 (n : Int)), (63, .int .i64 (j : Int)), (93, .bool (decide (0 < (p : Int))))] (by kernel_rfl) rfl ?_
                    have hb117 : (decide (0 < (p : Int))) = false := by assumption
                    rw [hb117]
                    refine GL.run (j := 12) 9 [2, 5, 7, 8, 10, 11, 61, 62, 63, 90] [(2, pt p3 0), (5, pt p17 0), (7, .int .u64 (p : Int)), (8, .int .u64 (t : Int)), (10, pt p95 0), (11, .int .i64 0), (61, .slice A n c0), (62, .int .i64 (n : Int)), (63, .int .i64 (j : Int)), (90, .bool false)] (by kernel_rfl) rfl ?_
                    refine GL.k rfl hK116 (fun _ _ h => h) ?_
                    refine G.no rfl ?_
                    refine G.skipK hK106 (fun _ _ h => h) ?_
                    have eW : 0 = setE m p t (k j) (f j) := by omega
                    refine G.fit [2, 5, 7, 8, 10, 11, 61, 62, 63] (M' := [(2, pt p3 0), (5, pt p17 0), (7, .int .u64 (p : Int)), (8, .int .u64 (t : Int)), (10, pt p95 0), (11, .int .i64 0), (61, .slice A n c0), (62, .int .i64 (n : Int)), (63, .int .i64 (j : Int))]) (by kernel_rfl) ?_
                    exact J104 0 _ ⟨eW, H101⟩
                  · skip
                    have hb114f := of_decide_eq_true hb114
                    refine GL.run (j := 4) 1 [2, 5, 7, 8, 10, 11, 61, 62, 63, 84, 85] [(2, pt p3 0), (5, pt p17 0), (7, .int .u64 (p : Int)), (8, .int .u64 (t : Int)), (10, pt p95 0), (11, .int .i64 0), (61, .slice A n c0), (62, .int .i64 (n : Int)), (63, .int .i64 (j : Int)), (84, .bool true), (85, pt p95 1)] (by kernel_rfl) rfl ?_
                    refine GL.sem (j := 5) (H101.ld (o := 1) (ty := 22) (v := .int .u64 ((f j : Nat) : Int)) 2 rfl (by kernel_rfl) rfl) [2, 5, 7, 8, 10, 11, 61, 62, 63, 84, 86] [(2, pt p3 0), (5, pt p17 0), (7, .int .u64 (p : Int)), (8, .int .u64 (t : Int)), (10, pt p95 0), (11, .int .i64 0), (61, .slice A n c0), (62, .int .i64 (n : Int)), (63, .int .i64 (j : Int)), (84, .bool true), (86, .int .u64 ((f j : Nat) : Int))] (by kernel_rfl) (by kernel_rfl) rfl ?_
                    refine GL.run (j := 9) 4 [2, 5, 7, 8, 10, 11, 61, 62, 63, 81] [(2, pt p3 0), (5, pt p17 0), (7, .int .u64 (p : Int)), (8, .int .u64 (t : Int)), (10, pt p95 0), (11, .int .i64 0), (61, .slice A n c0), (62, .int .i64 (n : Int)), (63, .int .i64 (j : Int)), (81, .bool (decide (((f j : Nat) : Int) ≤ (t : Int))))] (by kernel_rfl) rfl ?_
                    refine GL.k rfl hK113 (fun _ _ h => h) ?_
                    cases hb118 : (decide (((f j : Nat) : Int) ≤ (t : Int)))
                    · skip
                      have hb118f := of_decide_eq_false hb118
                      refine G.no rfl ?_
                      refine G.seqK fun K119 hK120 => ?_
                      refine G.region ?_
                      refine GL.run (j := 3) 3 [2, 5, 7, 8, 10, 11, 61, 62, 63, 93] [(2, pt p3 0), (5, pt p17 0), (7, .int .u64 (p : Int)), (8, .int .u64 (t : Int)), (10, pt p95 0), (11, .int .i64 0), (61, .slice A n c0), (62, .int .i64 (n : Int)), (63, .int .i64 (j : Int)), (93, .bool (decide (0 < (p : Int))))] (by kernel_rfl) rfl ?_
                      have hb121 : (decide (0 < (p : Int))) = true := by assumption
                      rw [hb121]
                      refine GL.run (j := 5) 2 [2, 5, 7, 8, 10, 11, 61, 62, 63, 93, 94, 95] [(2, pt p3 0), (5, pt p17 0), (7, .int .u64 (p : Int)), (8, .int .u64 (t : Int)), (10, pt p95 0), (11, .int .i64 0), (61, .slice A n c0), (62, .int .i64 (n : Int)), (63, .int .i64 (j : Int)), (93, .bool true), (94, .int .u64 (p : Int)), (95, pt p95 0)] (by kernel_rfl) rfl ?_
                      refine GL.sem (j := 6) (H101.ld (o := 0) (ty := 23) (v := .int .u64 ((k j : Nat) : Int)) 2 rfl (by kernel_rfl) rfl) [2, 5, 7, 8, 10, 11, 61, 62, 63, 93, 94, 96] [(2, pt p3 0), (5, pt p17 0), (7, .int .u64 (p : Int)), (8, .int .u64 (t : Int)), (10, pt p95 0), (11, .int .i64 0), (61, .slice A n c0), (62, .int .i64 (n : Int)), (63, .int .i64 (j : Int)), (93, .bool true), (94, .int .u64 (p : Int)), (96, .int .u64 ((k j : Nat) : Int))] (by kernel_rfl) (by kernel_rfl) rfl ?_
                      refine GL.run (j := 7) 1 [2, 5, 7, 8, 10, 11, 61, 62, 63, 93, 94, 96, 97] [(2, pt p3 0), (5, pt p17 0), (7, .int .u64 (p : Int)), (8, .int .u64 (t : Int)), (10, pt p95 0), (11, .int .i64 0), (61, .slice A n c0), (62, .int .i64 (n : Int)), (63, .int .i64 (j : Int)), (93, .bool true), (94, .int .u64 (p : Int)), (96, .int .u64 ((k j : Nat) : Int)), (97, pt p3 0)] (by kernel_rfl) rfl ?_
                      refine GL.sem (j := 8) (H101.ld (o := 0) (ty := 22) (v := .int .u64 (m : Int)) 0 rfl (by kernel_rfl) rfl) [2, 5, 7, 8, 10, 11, 61, 62, 63, 93, 94, 96, 98] [(2, pt p3 0), (5, pt p17 0), (7, .int .u64 (p : Int)), (8, .int .u64 (t : Int)), (10, pt p95 0), (11, .int .i64 0), (61, .slice A n c0), (62, .int .i64 (n : Int)), (63, .int .i64 (j : Int)), (93, .bool true), (94, .int .u64 (p : Int)), (96, .int .u64 ((k j : Nat) : Int)), (98, .int .u64 (m : Int))] (by kernel_rfl) (by kernel_rfl) rfl ?_
                      refine GL.call (j := 9) (moves_calls p (k j) m (by omega) (by omega) (by omega) w99) (by kernel_rfl) rfl (fun e_ w122 hR => ?_)
                      obtain ⟨rfl, H124⟩ := hR
                      have H123 : Hp w [] [.blk p3 [.int .u64 (m : Int), .int .u64 (g : Int)] 30, .blk p17 [.int .u64 (m : Int), .int .u64 (g : Int), .int .u64 (p : Int), .int .u64 (t : Int)] 46, .blk p95 [.int .u64 ((k j : Nat) : Int), .int .u64 ((f j : Nat) : Int), .int .u64 ((h j : Nat) : Int)] 39] w122 := H101.callNil H124
                      refine ⟨_, rfl, [2, 5, 7, 8, 10, 11, 61, 62, 63, 93, 99], [(2, pt p3 0), (5, pt p17 0), (7, .int .u64 (p : Int)), (8, .int .u64 (t : Int)), (10, pt p95 0), (11, .int .i64 0), (61, .slice A n c0), (62, .int .i64 (n : Int)), (63, .int .i64 (j : Int)), (93, .bool true), (99, .bool (decide ((max p (k j) - min p (k j)) * 1000 ≤ p * m)))], by kernel_rfl, ?_⟩
                      refine GL.run (j := 12) 3 [2, 5, 7, 8, 10, 11, 61, 62, 63, 90] [(2, pt p3 0), (5, pt p17 0), (7, .int .u64 (p : Int)), (8, .int .u64 (t : Int)), (10, pt p95 0), (11, .int .i64 0), (61, .slice A n c0), (62, .int .i64 (n : Int)), (63, .int .i64 (j : Int)), (90, .bool (!(decide ((max p (k j) - min p (k j)) * 1000 ≤ p * m))))] (by kernel_rfl) rfl ?_
                      refine GL.k rfl hK120 (fun _ _ h => h) ?_
                      cases hb125 : (decide ((max p (k j) - min p (k j)) * 1000 ≤ p * m))
                      · skip
                        have hb125f := of_decide_eq_false hb125
                        refine G.yes rfl ?_
                        refine G.region ?_
                        refine GL.run (j := 1) 1 [2, 5, 7, 8, 10, 11, 61, 62, 63] [(2, pt p3 0), (5, pt p17 0), (7, .int .u64 (p : Int)), (8, .int .u64 (t : Int)), (10, pt p95 0), (11, .int .i64 17), (61, .slice A n c0), (62, .int .i64 (n : Int)), (63, .int .i64 (j : Int))] (by kernel_rfl) rfl ?_
                        refine GL.k rfl hK106 (fun _ _ h => h) ?_
                        have eW : 17 = setE m p t (k j) (f j) := by omega
                        refine G.fit [2, 5, 7, 8, 10, 11, 61, 62, 63] (M' := [(2, pt p3 0), (5, pt p17 0), (7, .int .u64 (p : Int)), (8, .int .u64 (t : Int)), (10, pt p95 0), (11, .int .i64 17), (61, .slice A n c0), (62, .int .i64 (n : Int)), (63, .int .i64 (j : Int))]) (by kernel_rfl) ?_
                        exact J104 17 _ ⟨eW, H123⟩
                      · skip
                        have hb125f := of_decide_eq_true hb125
                        refine G.no rfl ?_
                        refine G.skipK hK106 (fun _ _ h => h) ?_
                        have eW : 0 = setE m p t (k j) (f j) := by omega
                        refine G.fit [2, 5, 7, 8, 10, 11, 61, 62, 63] (M' := [(2, pt p3 0), (5, pt p17 0), (7, .int .u64 (p : Int)), (8, .int .u64 (t : Int)), (10, pt p95 0), (11, .int .i64 0), (61, .slice A n c0), (62, .int .i64 (n : Int)), (63, .int .i64 (j : Int))]) (by kernel_rfl) ?_
                        exact J104 0 _ ⟨eW, H123⟩
                    · skip
                      have hb118f := of_decide_eq_true hb118
                      refine G.yes rfl ?_
                      refine G.region ?_
                      refine GL.run (j := 1) 1 [2, 5, 7, 8, 10, 11, 61, 62, 63] [(2, pt p3 0), (5, pt p17 0), (7, .int .u64 (p : Int)), (8, .int .u64 (t : Int)), (10, pt p95 0), (11, .int .i64 11), (61, .slice A n c0), (62, .int .i64 (n : Int)), (63, .int .i64 (j : Int))] (by kernel_rfl) rfl ?_
                      refine GL.k rfl hK106 (fun _ _ h => h) ?_
                      have eW : 11 = setE m p t (k j) (f j) := by omega
                      refine G.fit [2, 5, 7, 8, 10, 11, 61, 62, 63] (M' := [(2, pt p3 0), (5, pt p17 0), (7, .int .u64 (p : Int)), (8, .int .u64 (t : Int)), (10, pt p95 0), (11, .int .i64 11), (61, .slice A n c0), (62, .int .i64 (n : Int)), (63, .int .i64 (j : Int))]) (by kernel_rfl) ?_
                      exact J104 11 _ ⟨eW, H101⟩
                · skip
                  have hb111f := of_decide_eq_true hb111
                  refine G.yes rfl ?_
                  refine G.region ?_
                  refine GL.run (j := 1) 1 [2, 5, 7, 8, 10, 11, 61, 62, 63] [(2, pt p3 0), (5, pt p17 0), (7, .int .u64 (p : Int)), (8, .int .u64 (t : Int)), (10, pt p95 0), (11, .int .i64 1), (61, .slice A n c0), (62, .int .i64 (n : Int)), (63, .int .i64 (j : Int))] (by kernel_rfl) rfl ?_
                  refine GL.k rfl hK106 (fun _ _ h => h) ?_
                  have eW : 1 = setE m p t (k j) (f j) := by omega
                  refine G.fit [2, 5, 7, 8, 10, 11, 61, 62, 63] (M' := [(2, pt p3 0), (5, pt p17 0), (7, .int .u64 (p : Int)), (8, .int .u64 (t : Int)), (10, pt p95 0), (11, .int .i64 1), (61, .slice A n c0), (62, .int .i64 (n : Int)), (63, .int .i64 (j : Int))]) (by kernel_rfl) ?_
                  exact J104 1 _ ⟨eW, H101⟩
              · skip
                have hb110f := of_decide_eq_true hb110
                refine GL.run (j := 14) 5 [2, 5, 7, 8, 10, 11, 61, 62, 63, 67] [(2, pt p3 0), (5, pt p17 0), (7, .int .u64 (p : Int)), (8, .int .u64 (t : Int)), (10, pt p95 0), (11, .int .i64 0), (61, .slice A n c0), (62, .int .i64 (n : Int)), (63, .int .i64 (j : Int)), (67, .bool true)] (by kernel_rfl) rfl ?_
                refine GL.k rfl hK108 (fun _ _ h => h) ?_
                refine G.yes rfl ?_
                refine G.region ?_
                refine GL.run (j := 1) 1 [2, 5, 7, 8, 10, 11, 61, 62, 63] [(2, pt p3 0), (5, pt p17 0), (7, .int .u64 (p : Int)), (8, .int .u64 (t : Int)), (10, pt p95 0), (11, .int .i64 1), (61, .slice A n c0), (62, .int .i64 (n : Int)), (63, .int .i64 (j : Int))] (by kernel_rfl) rfl ?_
                refine GL.k rfl hK106 (fun _ _ h => h) ?_
                have eW : 1 = setE m p t (k j) (f j) := by omega
                refine G.fit [2, 5, 7, 8, 10, 11, 61, 62, 63] (M' := [(2, pt p3 0), (5, pt p17 0), (7, .int .u64 (p : Int)), (8, .int .u64 (t : Int)), (10, pt p95 0), (11, .int .i64 1), (61, .slice A n c0), (62, .int .i64 (n : Int)), (63, .int .i64 (j : Int))]) (by kernel_rfl) ?_
                exact J104 1 _ ⟨eW, H101⟩
            · skip
              have hb109f := of_decide_eq_true hb109
              refine GL.run (j := 14) 10 [2, 5, 7, 8, 10, 11, 61, 62, 63, 67] [(2, pt p3 0), (5, pt p17 0), (7, .int .u64 (p : Int)), (8, .int .u64 (t : Int)), (10, pt p95 0), (11, .int .i64 0), (61, .slice A n c0), (62, .int .i64 (n : Int)), (63, .int .i64 (j : Int)), (67, .bool true)] (by kernel_rfl) rfl ?_
              refine GL.k rfl hK108 (fun _ _ h => h) ?_
              refine G.yes rfl ?_
              refine G.region ?_
              refine GL.run (j := 1) 1 [2, 5, 7, 8, 10, 11, 61, 62, 63] [(2, pt p3 0), (5, pt p17 0), (7, .int .u64 (p : Int)), (8, .int .u64 (t : Int)), (10, pt p95 0), (11, .int .i64 1), (61, .slice A n c0), (62, .int .i64 (n : Int)), (63, .int .i64 (j : Int))] (by kernel_rfl) rfl ?_
              refine GL.k rfl hK106 (fun _ _ h => h) ?_
              have eW : 1 = setE m p t (k j) (f j) := by omega
              refine G.fit [2, 5, 7, 8, 10, 11, 61, 62, 63] (M' := [(2, pt p3 0), (5, pt p17 0), (7, .int .u64 (p : Int)), (8, .int .u64 (t : Int)), (10, pt p95 0), (11, .int .i64 1), (61, .slice A n c0), (62, .int .i64 (n : Int)), (63, .int .i64 (j : Int))]) (by kernel_rfl) ?_
              exact J104 1 _ ⟨eW, H101⟩
          · skip
            rintro wn w126 ⟨hi127, H128⟩
            refine G.eq (M' := [(2, pt p3 0), (5, pt p17 0), (7, .int .u64 (p : Int)), (8, .int .u64 (t : Int)), (10, pt p95 0), (11, .int .i64 (wn : Int)), (61, .slice A n c0), (62, .int .i64 (n : Int)), (63, .int .i64 (j : Int))]) rfl ?_
            have H128 : Hp w [] [.blk p3 [.int .u64 (m : Int), .int .u64 (g : Int)] 30, .blk p17 [.int .u64 (m : Int), .int .u64 (g : Int), .int .u64 (p : Int), .int .u64 (t : Int)] 46, .blk p95 [.int .u64 ((k j : Nat) : Int), .int .u64 ((f j : Nat) : Int), .int .u64 ((h j : Nat) : Int)] 39] w126 := H128
            have hwn := hi127
            have hbo := bounds_ok (m := m) (p := p) (by omega)
            have hba := band (m := m) (p := p) (q := k j)
            have hn0 : p = 0 → lowV m p = 1 ∧ highV m p = 1099511627776 := fun h => by rw [h]; exact bounds_none m
            refine G.seqK fun K129 hK130 => ?_
            refine G.region ?_
            refine GL.run (j := 1) 1 [2, 5, 7, 8, 10, 11, 61, 62, 63, 103] [(2, pt p3 0), (5, pt p17 0), (7, .int .u64 (p : Int)), (8, .int .u64 (t : Int)), (10, pt p95 0), (11, .int .i64 (wn : Int)), (61, .slice A n c0), (62, .int .i64 (n : Int)), (63, .int .i64 (j : Int)), (103, pt p17 0)] (by kernel_rfl) rfl ?_
            refine GL.call (j := 2) (Bounds_calls p17 m g p t (by omega) (by omega) w126 (H128.blkAt 1 rfl)) (by kernel_rfl) rfl (fun e_ w131 hR => ?_)
            obtain ⟨rfl, H133⟩ := hR
            have H132 : Hp w [] [.blk p3 [.int .u64 (m : Int), .int .u64 (g : Int)] 30, .blk p17 [.int .u64 (m : Int), .int .u64 (g : Int), .int .u64 (p : Int), .int .u64 (t : Int)] 46, .blk p95 [.int .u64 ((k j : Nat) : Int), .int .u64 ((f j : Nat) : Int), .int .u64 ((h j : Nat) : Int)] 39] w131 := H128.callIn 1 rfl H133
            refine ⟨_, rfl, [2, 5, 7, 8, 10, 11, 61, 62, 63, 104], [(2, pt p3 0), (5, pt p17 0), (7, .int .u64 (p : Int)), (8, .int .u64 (t : Int)), (10, pt p95 0), (11, .int .i64 (wn : Int)), (61, .slice A n c0), (62, .int .i64 (n : Int)), (63, .int .i64 (j : Int)), (104, .tuple #[.int .u64 (((lowV m p) : Nat) : Int), .int .u64 (((highV m p) : Nat) : Int)])], by kernel_rfl, ?_⟩
            refine GL.run (j := 7) 5 [2, 5, 7, 8, 10, 11, 12, 13, 61, 62, 63] [(2, pt p3 0), (5, pt p17 0), (7, .int .u64 (p : Int)), (8, .int .u64 (t : Int)), (10, pt p95 0), (11, .int .i64 (wn : Int)), (12, .int .u64 (((lowV m p) : Nat) : Int)), (13, .int .u64 (((highV m p) : Nat) : Int)), (61, .slice A n c0), (62, .int .i64 (n : Int)), (63, .int .i64 (j : Int))] (by kernel_rfl) rfl ?_
            refine GL.k rfl hK130 (fun _ _ h => h) ?_
            refine G.seqJ (X := Unit) (fun _ => [(2, pt p3 0), (5, pt p17 0), (7, .int .u64 (p : Int)), (8, .int .u64 (t : Int)), (10, pt p95 0), (11, .int .i64 (wn : Int)), (61, .slice A n c0), (62, .int .i64 (n : Int)), (63, .int .i64 (j : Int))]) (fun _ w_ => (True) ∧ Hp w [] [.blk p3 [.int .u64 (m : Int), .int .u64 (g : Int)] 30, .blk p17 [.int .u64 (m : Int), .int .u64 (g : Int), .int .u64 (p : Int), .int .u64 (t : Int)] 46, .blk p95 [.int .u64 ((k j : Nat) : Int), .int .u64 ((f j : Nat) : Int), .int .u64 ((h j : Nat) : Int)] 39] w_) (fun J134 K135 hK136 => ?_) ?_
            · skip
              refine G.seqK fun K137 hK138 => ?_
              refine G.heldP (Hp w [] [.blk p3 [.int .u64 (m : Int), .int .u64 (g : Int)] 30, .blk p17 [.int .u64 (m : Int), .int .u64 (g : Int), .int .u64 (p : Int), .int .u64 (t : Int)] 46, .blk p95 [.int .u64 ((k j : Nat) : Int), .int .u64 ((f j : Nat) : Int), .int .u64 ((h j : Nat) : Int)] 39]) (by kernel_rfl) (by kernel_rfl) (fun c_ a_ d_ v_ w_ h_ => hPan c_ a_ d_ v_ w_ h_) ?_
              have H139 := H132.drew
              generalize ({ w131 with drawn := w131.drawn + 1 } : World) = w140 at H139 ⊢
              have hS141 : Hp w [] [.blk p3 [.int .u64 (m : Int), .int .u64 (g : Int)] 30, .blk p17 [.int .u64 (m : Int), .int .u64 (g : Int), .int .u64 (p : Int), .int .u64 (t : Int)] 46, .blk p95 [.int .u64 ((k j : Nat) : Int), .int .u64 ((f j : Nat) : Int), .int .u64 ((h j : Nat) : Int)] 39] w140 := H139.sub (List.Sublist.cons_cons _ (List.Sublist.cons_cons _ (List.Sublist.cons_cons _ (List.Sublist.slnil))))
              refine GP.run [0] [2, 5, 7, 8, 10, 11, 12, 13, 61, 62, 63, 107] [(2, pt p3 0), (5, pt p17 0), (7, .int .u64 (p : Int)), (8, .int .u64 (t : Int)), (10, pt p95 0), (11, .int .i64 (wn : Int)), (12, .int .u64 (((lowV m p) : Nat) : Int)), (13, .int .u64 (((highV m p) : Nat) : Int)), (61, .slice A n c0), (62, .int .i64 (n : Int)), (63, .int .i64 (j : Int)), (107, pt p95 0)] [0] (by kernel_rfl) rfl hS141 ?_
              refine GP.sem 1 (fun w_ H_ => H_.ld (o := 0) (ty := 23) (v := .int .u64 ((k j : Nat) : Int)) 2 rfl (by kernel_rfl) rfl) [2, 5, 7, 8, 10, 11, 12, 13, 61, 62, 63, 108] [(2, pt p3 0), (5, pt p17 0), (7, .int .u64 (p : Int)), (8, .int .u64 (t : Int)), (10, pt p95 0), (11, .int .i64 (wn : Int)), (12, .int .u64 (((lowV m p) : Nat) : Int)), (13, .int .u64 (((highV m p) : Nat) : Int)), (61, .slice A n c0), (62, .int .i64 (n : Int)), (63, .int .i64 (j : Int)), (108, .int .u64 ((k j : Nat) : Int))] (by kernel_rfl) (by kernel_rfl) (by kernel_rfl) hS141 ?_
              refine GP.run [2, 3] [2, 5, 7, 8, 10, 11, 12, 13, 61, 62, 63, 110] [(2, pt p3 0), (5, pt p17 0), (7, .int .u64 (p : Int)), (8, .int .u64 (t : Int)), (10, pt p95 0), (11, .int .i64 (wn : Int)), (12, .int .u64 (((lowV m p) : Nat) : Int)), (13, .int .u64 (((highV m p) : Nat) : Int)), (61, .slice A n c0), (62, .int .i64 (n : Int)), (63, .int .i64 (j : Int)), (110, .bool (decide (1 ≤ ((k j : Nat) : Int))))] [0, 1, 2, 3] (by kernel_rfl) rfl hS141 ?_
              cases hb142 : (decide (1 ≤ ((k j : Nat) : Int)))
              · skip
                have hb142f := of_decide_eq_false hb142
                refine GP.run [4, 5, 6, 7, 8, 9, 10, 11, 12, 13, 14, 15, 16, 17, 18, 19, 20, 21, 22, 23, 24, 25, 26, 27, 28, 29, 30] [2, 5, 7, 8, 10, 11, 61, 62, 63, 137] [(2, pt p3 0), (5, pt p17 0), (7, .int .u64 (p : Int)), (8, .int .u64 (t : Int)), (10, pt p95 0), (11, .int .i64 (wn : Int)), (61, .slice A n c0), (62, .int .i64 (n : Int)), (63, .int .i64 (j : Int)), (137, .bool false)] [0, 1, 2, 3, 4, 5, 6, 7, 8, 9, 10, 11, 12, 13, 14, 15, 16, 17, 18, 19, 20, 21, 22, 23, 24, 25, 26, 27, 28, 29, 30] (by kernel_rfl) rfl hS141 ?_
                refine GP.k (by kernel_rfl) hK138 (fun _ _ h => h) ?_
                refine G.no rfl ?_
                refine G.skipK hK136 (fun _ _ h => h) ?_
                refine G.fit [2, 5, 7, 8, 10, 11, 61, 62, 63] (M' := [(2, pt p3 0), (5, pt p17 0), (7, .int .u64 (p : Int)), (8, .int .u64 (t : Int)), (10, pt p95 0), (11, .int .i64 (wn : Int)), (61, .slice A n c0), (62, .int .i64 (n : Int)), (63, .int .i64 (j : Int))]) (by kernel_rfl) ?_
                exact J134 () _ ⟨trivial, H139⟩
              · skip
                have hb142f := of_decide_eq_true hb142
                refine GP.run [4] [2, 5, 7, 8, 10, 11, 12, 13, 61, 62, 63, 110, 111] [(2, pt p3 0), (5, pt p17 0), (7, .int .u64 (p : Int)), (8, .int .u64 (t : Int)), (10, pt p95 0), (11, .int .i64 (wn : Int)), (12, .int .u64 (((lowV m p) : Nat) : Int)), (13, .int .u64 (((highV m p) : Nat) : Int)), (61, .slice A n c0), (62, .int .i64 (n : Int)), (63, .int .i64 (j : Int)), (110, .bool true), (111, pt p95 0)] [0, 1, 2, 3, 4] (by kernel_rfl) rfl hS141 ?_
                refine GP.sem 5 (fun w_ H_ => H_.ld (o := 0) (ty := 23) (v := .int .u64 ((k j : Nat) : Int)) 2 rfl (by kernel_rfl) rfl) [2, 5, 7, 8, 10, 11, 12, 13, 61, 62, 63, 110, 112] [(2, pt p3 0), (5, pt p17 0), (7, .int .u64 (p : Int)), (8, .int .u64 (t : Int)), (10, pt p95 0), (11, .int .i64 (wn : Int)), (12, .int .u64 (((lowV m p) : Nat) : Int)), (13, .int .u64 (((highV m p) : Nat) : Int)), (61, .slice A n c0), (62, .int .i64 (n : Int)), (63, .int .i64 (j : Int)), (110, .bool true), (112, .int .u64 ((k j : Nat) : Int))] (by kernel_rfl) (by kernel_rfl) (by kernel_rfl) hS141 ?_
                refine GP.run [6, 7, 8] [2, 5, 7, 8, 10, 11, 12, 13, 61, 62, 63, 115] [(2, pt p3 0), (5, pt p17 0), (7, .int .u64 (p : Int)), (8, .int .u64 (t : Int)), (10, pt p95 0), (11, .int .i64 (wn : Int)), (12, .int .u64 (((lowV m p) : Nat) : Int)), (13, .int .u64 (((highV m p) : Nat) : Int)), (61, .slice A n c0), (62, .int .i64 (n : Int)), (63, .int .i64 (j : Int)), (115, .bool (decide (((k j : Nat) : Int) ≤ 1099511627776)))] [0, 1, 2, 3, 4, 5, 6, 7, 8] (by kernel_rfl) rfl hS141 ?_
                cases hb143 : (decide (((k j : Nat) : Int) ≤ 1099511627776))
                · skip
                  have hb143f := of_decide_eq_false hb143
                  refine GP.run [9, 10, 11, 12, 13, 14, 15, 16, 17, 18, 19, 20, 21, 22, 23, 24, 25, 26, 27, 28, 29, 30] [2, 5, 7, 8, 10, 11, 61, 62, 63, 137] [(2, pt p3 0), (5, pt p17 0), (7, .int .u64 (p : Int)), (8, .int .u64 (t : Int)), (10, pt p95 0), (11, .int .i64 (wn : Int)), (61, .slice A n c0), (62, .int .i64 (n : Int)), (63, .int .i64 (j : Int)), (137, .bool false)] [0, 1, 2, 3, 4, 5, 6, 7, 8, 9, 10, 11, 12, 13, 14, 15, 16, 17, 18, 19, 20, 21, 22, 23, 24, 25, 26, 27, 28, 29, 30] (by kernel_rfl) rfl hS141 ?_
                  refine GP.k (by kernel_rfl) hK138 (fun _ _ h => h) ?_
                  refine G.no rfl ?_
                  refine G.skipK hK136 (fun _ _ h => h) ?_
                  refine G.fit [2, 5, 7, 8, 10, 11, 61, 62, 63] (M' := [(2, pt p3 0), (5, pt p17 0), (7, .int .u64 (p : Int)), (8, .int .u64 (t : Int)), (10, pt p95 0), (11, .int .i64 (wn : Int)), (61, .slice A n c0), (62, .int .i64 (n : Int)), (63, .int .i64 (j : Int))]) (by kernel_rfl) ?_
                  exact J134 () _ ⟨trivial, H139⟩
                · skip
                  have hb143f := of_decide_eq_true hb143
                  refine GP.run [9] [2, 5, 7, 8, 10, 11, 12, 13, 61, 62, 63, 115, 116] [(2, pt p3 0), (5, pt p17 0), (7, .int .u64 (p : Int)), (8, .int .u64 (t : Int)), (10, pt p95 0), (11, .int .i64 (wn : Int)), (12, .int .u64 (((lowV m p) : Nat) : Int)), (13, .int .u64 (((highV m p) : Nat) : Int)), (61, .slice A n c0), (62, .int .i64 (n : Int)), (63, .int .i64 (j : Int)), (115, .bool true), (116, pt p95 0)] [0, 1, 2, 3, 4, 5, 6, 7, 8, 9] (by kernel_rfl) rfl hS141 ?_
                  refine GP.sem 10 (fun w_ H_ => H_.ld (o := 0) (ty := 23) (v := .int .u64 ((k j : Nat) : Int)) 2 rfl (by kernel_rfl) rfl) [2, 5, 7, 8, 10, 11, 12, 13, 61, 62, 63, 115, 117] [(2, pt p3 0), (5, pt p17 0), (7, .int .u64 (p : Int)), (8, .int .u64 (t : Int)), (10, pt p95 0), (11, .int .i64 (wn : Int)), (12, .int .u64 (((lowV m p) : Nat) : Int)), (13, .int .u64 (((highV m p) : Nat) : Int)), (61, .slice A n c0), (62, .int .i64 (n : Int)), (63, .int .i64 (j : Int)), (115, .bool true), (117, .int .u64 ((k j : Nat) : Int))] (by kernel_rfl) (by kernel_rfl) (by kernel_rfl) hS141 ?_
                  refine GP.run [11, 12, 13, 19, 20, 21] [2, 5, 7, 8, 10, 11, 13, 61, 62, 63, 115, 120, 128] [(2, pt p3 0), (5, pt p17 0), (7, .int .u64 (p : Int)), (8, .int .u64 (t : Int)), (10, pt p95 0), (11, .int .i64 (wn : Int)), (13, .int .u64 (((highV m p) : Nat) : Int)), (61, .slice A n c0), (62, .int .i64 (n : Int)), (63, .int .i64 (j : Int)), (115, .bool true), (120, .bool (decide ((((lowV m p) : Nat) : Int) ≤ ((k j : Nat) : Int)))), (128, .bool ((p : Int) == 0))] [0, 1, 2, 3, 4, 5, 6, 7, 8, 9, 10, 11, 12, 13, 19, 20, 21] (by kernel_rfl) rfl hS141 ?_
                  cases hb144 : (decide ((((lowV m p) : Nat) : Int) ≤ ((k j : Nat) : Int)))
                  · skip
                    have hb144f := of_decide_eq_false hb144
                    refine GP.run [14, 15, 16, 17, 18] [2, 5, 7, 8, 10, 11, 61, 62, 63, 115, 125, 128] [(2, pt p3 0), (5, pt p17 0), (7, .int .u64 (p : Int)), (8, .int .u64 (t : Int)), (10, pt p95 0), (11, .int .i64 (wn : Int)), (61, .slice A n c0), (62, .int .i64 (n : Int)), (63, .int .i64 (j : Int)), (115, .bool true), (125, .bool false), (128, .bool ((p : Int) == 0))] [0, 1, 2, 3, 4, 5, 6, 7, 8, 9, 10, 11, 12, 13, 19, 20, 21, 14, 15, 16, 17, 18] (by kernel_rfl) rfl hS141 ?_
                    cases hb145 : ((p : Int) == 0)
                    · skip
                      have hb145f := ne_of_beq_false hb145
                      refine GP.run [22, 23] [2, 5, 7, 8, 10, 11, 61, 62, 63, 115, 125, 128, 129, 130] [(2, pt p3 0), (5, pt p17 0), (7, .int .u64 (p : Int)), (8, .int .u64 (t : Int)), (10, pt p95 0), (11, .int .i64 (wn : Int)), (61, .slice A n c0), (62, .int .i64 (n : Int)), (63, .int .i64 (j : Int)), (115, .bool true), (125, .bool false), (128, .bool false), (129, .int .u64 (p : Int)), (130, pt p95 0)] [0, 1, 2, 3, 4, 5, 6, 7, 8, 9, 10, 11, 12, 13, 19, 20, 21, 14, 15, 16, 17, 18, 22, 23] (by kernel_rfl) rfl hS141 ?_
                      refine GP.sem 24 (fun w_ H_ => H_.ld (o := 0) (ty := 23) (v := .int .u64 ((k j : Nat) : Int)) 2 rfl (by kernel_rfl) rfl) [2, 5, 7, 8, 10, 11, 61, 62, 63, 115, 125, 128, 129, 131] [(2, pt p3 0), (5, pt p17 0), (7, .int .u64 (p : Int)), (8, .int .u64 (t : Int)), (10, pt p95 0), (11, .int .i64 (wn : Int)), (61, .slice A n c0), (62, .int .i64 (n : Int)), (63, .int .i64 (j : Int)), (115, .bool true), (125, .bool false), (128, .bool false), (129, .int .u64 (p : Int)), (131, .int .u64 ((k j : Nat) : Int))] (by kernel_rfl) (by kernel_rfl) (by kernel_rfl) hS141 ?_
                      refine GP.run [25] [2, 5, 7, 8, 10, 11, 61, 62, 63, 115, 125, 128, 129, 131, 132] [(2, pt p3 0), (5, pt p17 0), (7, .int .u64 (p : Int)), (8, .int .u64 (t : Int)), (10, pt p95 0), (11, .int .i64 (wn : Int)), (61, .slice A n c0), (62, .int .i64 (n : Int)), (63, .int .i64 (j : Int)), (115, .bool true), (125, .bool false), (128, .bool false), (129, .int .u64 (p : Int)), (131, .int .u64 ((k j : Nat) : Int)), (132, pt p3 0)] [0, 1, 2, 3, 4, 5, 6, 7, 8, 9, 10, 11, 12, 13, 19, 20, 21, 14, 15, 16, 17, 18, 22, 23, 24, 25] (by kernel_rfl) rfl hS141 ?_
                      refine GP.sem 26 (fun w_ H_ => H_.ld (o := 0) (ty := 22) (v := .int .u64 (m : Int)) 0 rfl (by kernel_rfl) rfl) [2, 5, 7, 8, 10, 11, 61, 62, 63, 115, 125, 128, 129, 131, 133] [(2, pt p3 0), (5, pt p17 0), (7, .int .u64 (p : Int)), (8, .int .u64 (t : Int)), (10, pt p95 0), (11, .int .i64 (wn : Int)), (61, .slice A n c0), (62, .int .i64 (n : Int)), (63, .int .i64 (j : Int)), (115, .bool true), (125, .bool false), (128, .bool false), (129, .int .u64 (p : Int)), (131, .int .u64 ((k j : Nat) : Int)), (133, .int .u64 (m : Int))] (by kernel_rfl) (by kernel_rfl) (by kernel_rfl) hS141 ?_
                      refine GP.call 27 (moves_calls p (k j) m (by omega) (by omega) (by omega) w140) (by kernel_rfl) (by kernel_rfl) (fun e_ w146 hR => ?_)
                      obtain ⟨rfl, H148⟩ := hR
                      have H147 : Hp w [] [.blk p3 [.int .u64 (m : Int), .int .u64 (g : Int)] 30, .blk p17 [.int .u64 (m : Int), .int .u64 (g : Int), .int .u64 (p : Int), .int .u64 (t : Int)] 46, .blk p95 [.int .u64 ((k j : Nat) : Int), .int .u64 ((f j : Nat) : Int), .int .u64 ((h j : Nat) : Int)] 39] w146 := H139.callNil H148
                      have hS149 : Hp w [] [.blk p3 [.int .u64 (m : Int), .int .u64 (g : Int)] 30, .blk p17 [.int .u64 (m : Int), .int .u64 (g : Int), .int .u64 (p : Int), .int .u64 (t : Int)] 46, .blk p95 [.int .u64 ((k j : Nat) : Int), .int .u64 ((f j : Nat) : Int), .int .u64 ((h j : Nat) : Int)] 39] w146 := H147.sub (List.Sublist.cons_cons _ (List.Sublist.cons_cons _ (List.Sublist.cons_cons _ (List.Sublist.slnil))))
                      refine ⟨_, rfl, hS149, [2, 5, 7, 8, 10, 11, 61, 62, 63, 115, 125, 128, 134], [(2, pt p3 0), (5, pt p17 0), (7, .int .u64 (p : Int)), (8, .int .u64 (t : Int)), (10, pt p95 0), (11, .int .i64 (wn : Int)), (61, .slice A n c0), (62, .int .i64 (n : Int)), (63, .int .i64 (j : Int)), (115, .bool true), (125, .bool false), (128, .bool false), (134, .bool (decide ((max p (k j) - min p (k j)) * 1000 ≤ p * m)))], by kernel_rfl, ?_⟩
                      refine GP.run [28] [2, 5, 7, 8, 10, 11, 61, 62, 63, 115, 125, 135] [(2, pt p3 0), (5, pt p17 0), (7, .int .u64 (p : Int)), (8, .int .u64 (t : Int)), (10, pt p95 0), (11, .int .i64 (wn : Int)), (61, .slice A n c0), (62, .int .i64 (n : Int)), (63, .int .i64 (j : Int)), (115, .bool true), (125, .bool false), (135, .bool (decide ((max p (k j) - min p (k j)) * 1000 ≤ p * m)))] [0, 1, 2, 3, 4, 5, 6, 7, 8, 9, 10, 11, 12, 13, 19, 20, 21, 14, 15, 16, 17, 18, 22, 23, 24, 25, 26, 27, 28] (by kernel_rfl) rfl hS149 ?_
                      cases hb150 : (decide ((max p (k j) - min p (k j)) * 1000 ≤ p * m))
                      · skip
                        have hb150f := of_decide_eq_false hb150
                        refine GP.run [29, 30] [2, 5, 7, 8, 10, 11, 61, 62, 63, 137] [(2, pt p3 0), (5, pt p17 0), (7, .int .u64 (p : Int)), (8, .int .u64 (t : Int)), (10, pt p95 0), (11, .int .i64 (wn : Int)), (61, .slice A n c0), (62, .int .i64 (n : Int)), (63, .int .i64 (j : Int)), (137, .bool false)] [0, 1, 2, 3, 4, 5, 6, 7, 8, 9, 10, 11, 12, 13, 19, 20, 21, 14, 15, 16, 17, 18, 22, 23, 24, 25, 26, 27, 28, 29, 30] (by kernel_rfl) rfl hS149 ?_
                        refine GP.k (by kernel_rfl) hK138 (fun _ _ h => h) ?_
                        refine G.no rfl ?_
                        refine G.skipK hK136 (fun _ _ h => h) ?_
                        refine G.fit [2, 5, 7, 8, 10, 11, 61, 62, 63] (M' := [(2, pt p3 0), (5, pt p17 0), (7, .int .u64 (p : Int)), (8, .int .u64 (t : Int)), (10, pt p95 0), (11, .int .i64 (wn : Int)), (61, .slice A n c0), (62, .int .i64 (n : Int)), (63, .int .i64 (j : Int))]) (by kernel_rfl) ?_
                        exact J134 () _ ⟨trivial, H147⟩
                      · skip
                        have hb150f := of_decide_eq_true hb150
                        refine GP.run [29, 30] [2, 5, 7, 8, 10, 11, 61, 62, 63, 137] [(2, pt p3 0), (5, pt p17 0), (7, .int .u64 (p : Int)), (8, .int .u64 (t : Int)), (10, pt p95 0), (11, .int .i64 (wn : Int)), (61, .slice A n c0), (62, .int .i64 (n : Int)), (63, .int .i64 (j : Int)), (137, .bool true)] [0, 1, 2, 3, 4, 5, 6, 7, 8, 9, 10, 11, 12, 13, 19, 20, 21, 14, 15, 16, 17, 18, 22, 23, 24, 25, 26, 27, 28, 29, 30] (by kernel_rfl) rfl hS149 ?_
                        refine GP.k (by kernel_rfl) hK138 (fun _ _ h => h) ?_
                        refine G.yes rfl ?_
                        refine G.seqK fun K151 hK152 => ?_
                        refine G.region ?_
                        refine GL.run (j := 1) 1 [4] [(4, .bool false)] (by kernel_rfl) rfl ?_
                        refine GL.k rfl hK152 (fun _ _ h => h) ?_
                        refine G.ret ?_
                        intro F_ hF_ hM_
                        refine hRet _ _ (bodyPost_1 rfl (RV.tmp rfl) ?_ F_ hF_ hM_)
                        exfalso
                        omega
                    · skip
                      have hb145f := eq_of_beq hb145
                      refine GP.run [22, 23, 24, 25, 26, 27, 28, 29, 30] [2, 5, 7, 8, 10, 11, 61, 62, 63, 137] [(2, pt p3 0), (5, pt p17 0), (7, .int .u64 (p : Int)), (8, .int .u64 (t : Int)), (10, pt p95 0), (11, .int .i64 (wn : Int)), (61, .slice A n c0), (62, .int .i64 (n : Int)), (63, .int .i64 (j : Int)), (137, .bool true)] [0, 1, 2, 3, 4, 5, 6, 7, 8, 9, 10, 11, 12, 13, 19, 20, 21, 14, 15, 16, 17, 18, 22, 23, 24, 25, 26, 27, 28, 29, 30] (by kernel_rfl) rfl hS141 ?_
                      refine GP.k (by kernel_rfl) hK138 (fun _ _ h => h) ?_
                      refine G.yes rfl ?_
                      refine G.seqK fun K153 hK154 => ?_
                      refine G.region ?_
                      refine GL.run (j := 1) 1 [4] [(4, .bool false)] (by kernel_rfl) rfl ?_
                      refine GL.k rfl hK154 (fun _ _ h => h) ?_
                      refine G.ret ?_
                      intro F_ hF_ hM_
                      refine hRet _ _ (bodyPost_1 rfl (RV.tmp rfl) ?_ F_ hF_ hM_)
                      exfalso
                      omega
                  · skip
                    have hb144f := of_decide_eq_true hb144
                    refine GP.run [14] [2, 5, 7, 8, 10, 11, 13, 61, 62, 63, 115, 120, 121, 128] [(2, pt p3 0), (5, pt p17 0), (7, .int .u64 (p : Int)), (8, .int .u64 (t : Int)), (10, pt p95 0), (11, .int .i64 (wn : Int)), (13, .int .u64 (((highV m p) : Nat) : Int)), (61, .slice A n c0), (62, .int .i64 (n : Int)), (63, .int .i64 (j : Int)), (115, .bool true), (120, .bool true), (121, pt p95 0), (128, .bool ((p : Int) == 0))] [0, 1, 2, 3, 4, 5, 6, 7, 8, 9, 10, 11, 12, 13, 19, 20, 21, 14] (by kernel_rfl) rfl hS141 ?_
                    refine GP.sem 15 (fun w_ H_ => H_.ld (o := 0) (ty := 23) (v := .int .u64 ((k j : Nat) : Int)) 2 rfl (by kernel_rfl) rfl) [2, 5, 7, 8, 10, 11, 13, 61, 62, 63, 115, 120, 122, 128] [(2, pt p3 0), (5, pt p17 0), (7, .int .u64 (p : Int)), (8, .int .u64 (t : Int)), (10, pt p95 0), (11, .int .i64 (wn : Int)), (13, .int .u64 (((highV m p) : Nat) : Int)), (61, .slice A n c0), (62, .int .i64 (n : Int)), (63, .int .i64 (j : Int)), (115, .bool true), (120, .bool true), (122, .int .u64 ((k j : Nat) : Int)), (128, .bool ((p : Int) == 0))] (by kernel_rfl) (by kernel_rfl) (by kernel_rfl) hS141 ?_
                    refine GP.run [16, 17, 18] [2, 5, 7, 8, 10, 11, 61, 62, 63, 115, 125, 128] [(2, pt p3 0), (5, pt p17 0), (7, .int .u64 (p : Int)), (8, .int .u64 (t : Int)), (10, pt p95 0), (11, .int .i64 (wn : Int)), (61, .slice A n c0), (62, .int .i64 (n : Int)), (63, .int .i64 (j : Int)), (115, .bool true), (125, .bool (decide (((k j : Nat) : Int) ≤ (((highV m p) : Nat) : Int)))), (128, .bool ((p : Int) == 0))] [0, 1, 2, 3, 4, 5, 6, 7, 8, 9, 10, 11, 12, 13, 19, 20, 21, 14, 15, 16, 17, 18] (by kernel_rfl) rfl hS141 ?_
                    cases hb155 : ((p : Int) == 0)
                    · skip
                      have hb155f := ne_of_beq_false hb155
                      refine GP.run [22, 23] [2, 5, 7, 8, 10, 11, 61, 62, 63, 115, 125, 128, 129, 130] [(2, pt p3 0), (5, pt p17 0), (7, .int .u64 (p : Int)), (8, .int .u64 (t : Int)), (10, pt p95 0), (11, .int .i64 (wn : Int)), (61, .slice A n c0), (62, .int .i64 (n : Int)), (63, .int .i64 (j : Int)), (115, .bool true), (125, .bool (decide (((k j : Nat) : Int) ≤ (((highV m p) : Nat) : Int)))), (128, .bool false), (129, .int .u64 (p : Int)), (130, pt p95 0)] [0, 1, 2, 3, 4, 5, 6, 7, 8, 9, 10, 11, 12, 13, 19, 20, 21, 14, 15, 16, 17, 18, 22, 23] (by kernel_rfl) rfl hS141 ?_
                      refine GP.sem 24 (fun w_ H_ => H_.ld (o := 0) (ty := 23) (v := .int .u64 ((k j : Nat) : Int)) 2 rfl (by kernel_rfl) rfl) [2, 5, 7, 8, 10, 11, 61, 62, 63, 115, 125, 128, 129, 131] [(2, pt p3 0), (5, pt p17 0), (7, .int .u64 (p : Int)), (8, .int .u64 (t : Int)), (10, pt p95 0), (11, .int .i64 (wn : Int)), (61, .slice A n c0), (62, .int .i64 (n : Int)), (63, .int .i64 (j : Int)), (115, .bool true), (125, .bool (decide (((k j : Nat) : Int) ≤ (((highV m p) : Nat) : Int)))), (128, .bool false), (129, .int .u64 (p : Int)), (131, .int .u64 ((k j : Nat) : Int))] (by kernel_rfl) (by kernel_rfl) (by kernel_rfl) hS141 ?_
                      refine GP.run [25] [2, 5, 7, 8, 10, 11, 61, 62, 63, 115, 125, 128, 129, 131, 132] [(2, pt p3 0), (5, pt p17 0), (7, .int .u64 (p : Int)), (8, .int .u64 (t : Int)), (10, pt p95 0), (11, .int .i64 (wn : Int)), (61, .slice A n c0), (62, .int .i64 (n : Int)), (63, .int .i64 (j : Int)), (115, .bool true), (125, .bool (decide (((k j : Nat) : Int) ≤ (((highV m p) : Nat) : Int)))), (128, .bool false), (129, .int .u64 (p : Int)), (131, .int .u64 ((k j : Nat) : Int)), (132, pt p3 0)] [0, 1, 2, 3, 4, 5, 6, 7, 8, 9, 10, 11, 12, 13, 19, 20, 21, 14, 15, 16, 17, 18, 22, 23, 24, 25] (by kernel_rfl) rfl hS141 ?_
                      refine GP.sem 26 (fun w_ H_ => H_.ld (o := 0) (ty := 22) (v := .int .u64 (m : Int)) 0 rfl (by kernel_rfl) rfl) [2, 5, 7, 8, 10, 11, 61, 62, 63, 115, 125, 128, 129, 131, 133] [(2, pt p3 0), (5, pt p17 0), (7, .int .u64 (p : Int)), (8, .int .u64 (t : Int)), (10, pt p95 0), (11, .int .i64 (wn : Int)), (61, .slice A n c0), (62, .int .i64 (n : Int)), (63, .int .i64 (j : Int)), (115, .bool true), (125, .bool (decide (((k j : Nat) : Int) ≤ (((highV m p) : Nat) : Int)))), (128, .bool false), (129, .int .u64 (p : Int)), (131, .int .u64 ((k j : Nat) : Int)), (133, .int .u64 (m : Int))] (by kernel_rfl) (by kernel_rfl) (by kernel_rfl) hS141 ?_
                      refine GP.call 27 (moves_calls p (k j) m (by omega) (by omega) (by omega) w140) (by kernel_rfl) (by kernel_rfl) (fun e_ w156 hR => ?_)
                      obtain ⟨rfl, H158⟩ := hR
                      have H157 : Hp w [] [.blk p3 [.int .u64 (m : Int), .int .u64 (g : Int)] 30, .blk p17 [.int .u64 (m : Int), .int .u64 (g : Int), .int .u64 (p : Int), .int .u64 (t : Int)] 46, .blk p95 [.int .u64 ((k j : Nat) : Int), .int .u64 ((f j : Nat) : Int), .int .u64 ((h j : Nat) : Int)] 39] w156 := H139.callNil H158
                      have hS159 : Hp w [] [.blk p3 [.int .u64 (m : Int), .int .u64 (g : Int)] 30, .blk p17 [.int .u64 (m : Int), .int .u64 (g : Int), .int .u64 (p : Int), .int .u64 (t : Int)] 46, .blk p95 [.int .u64 ((k j : Nat) : Int), .int .u64 ((f j : Nat) : Int), .int .u64 ((h j : Nat) : Int)] 39] w156 := H157.sub (List.Sublist.cons_cons _ (List.Sublist.cons_cons _ (List.Sublist.cons_cons _ (List.Sublist.slnil))))
                      refine ⟨_, rfl, hS159, [2, 5, 7, 8, 10, 11, 61, 62, 63, 115, 125, 128, 134], [(2, pt p3 0), (5, pt p17 0), (7, .int .u64 (p : Int)), (8, .int .u64 (t : Int)), (10, pt p95 0), (11, .int .i64 (wn : Int)), (61, .slice A n c0), (62, .int .i64 (n : Int)), (63, .int .i64 (j : Int)), (115, .bool true), (125, .bool (decide (((k j : Nat) : Int) ≤ (((highV m p) : Nat) : Int)))), (128, .bool false), (134, .bool (decide ((max p (k j) - min p (k j)) * 1000 ≤ p * m)))], by kernel_rfl, ?_⟩
                      refine GP.run [28] [2, 5, 7, 8, 10, 11, 61, 62, 63, 115, 125, 135] [(2, pt p3 0), (5, pt p17 0), (7, .int .u64 (p : Int)), (8, .int .u64 (t : Int)), (10, pt p95 0), (11, .int .i64 (wn : Int)), (61, .slice A n c0), (62, .int .i64 (n : Int)), (63, .int .i64 (j : Int)), (115, .bool true), (125, .bool (decide (((k j : Nat) : Int) ≤ (((highV m p) : Nat) : Int)))), (135, .bool (decide ((max p (k j) - min p (k j)) * 1000 ≤ p * m)))] [0, 1, 2, 3, 4, 5, 6, 7, 8, 9, 10, 11, 12, 13, 19, 20, 21, 14, 15, 16, 17, 18, 22, 23, 24, 25, 26, 27, 28] (by kernel_rfl) rfl hS159 ?_
                      cases hb160 : (decide (((k j : Nat) : Int) ≤ (((highV m p) : Nat) : Int)))
                      · skip
                        have hb160f := of_decide_eq_false hb160
                        cases hb161 : (decide ((max p (k j) - min p (k j)) * 1000 ≤ p * m))
                        · skip
                          have hb161f := of_decide_eq_false hb161
                          refine GP.run [29, 30] [2, 5, 7, 8, 10, 11, 61, 62, 63, 137] [(2, pt p3 0), (5, pt p17 0), (7, .int .u64 (p : Int)), (8, .int .u64 (t : Int)), (10, pt p95 0), (11, .int .i64 (wn : Int)), (61, .slice A n c0), (62, .int .i64 (n : Int)), (63, .int .i64 (j : Int)), (137, .bool false)] [0, 1, 2, 3, 4, 5, 6, 7, 8, 9, 10, 11, 12, 13, 19, 20, 21, 14, 15, 16, 17, 18, 22, 23, 24, 25, 26, 27, 28, 29, 30] (by kernel_rfl) rfl hS159 ?_
                          refine GP.k (by kernel_rfl) hK138 (fun _ _ h => h) ?_
                          refine G.no rfl ?_
                          refine G.skipK hK136 (fun _ _ h => h) ?_
                          refine G.fit [2, 5, 7, 8, 10, 11, 61, 62, 63] (M' := [(2, pt p3 0), (5, pt p17 0), (7, .int .u64 (p : Int)), (8, .int .u64 (t : Int)), (10, pt p95 0), (11, .int .i64 (wn : Int)), (61, .slice A n c0), (62, .int .i64 (n : Int)), (63, .int .i64 (j : Int))]) (by kernel_rfl) ?_
                          exact J134 () _ ⟨trivial, H157⟩
                        · skip
                          have hb161f := of_decide_eq_true hb161
                          refine GP.run [29, 30] [2, 5, 7, 8, 10, 11, 61, 62, 63, 137] [(2, pt p3 0), (5, pt p17 0), (7, .int .u64 (p : Int)), (8, .int .u64 (t : Int)), (10, pt p95 0), (11, .int .i64 (wn : Int)), (61, .slice A n c0), (62, .int .i64 (n : Int)), (63, .int .i64 (j : Int)), (137, .bool true)] [0, 1, 2, 3, 4, 5, 6, 7, 8, 9, 10, 11, 12, 13, 19, 20, 21, 14, 15, 16, 17, 18, 22, 23, 24, 25, 26, 27, 28, 29, 30] (by kernel_rfl) rfl hS159 ?_
                          refine GP.k (by kernel_rfl) hK138 (fun _ _ h => h) ?_
                          refine G.yes rfl ?_
                          refine G.seqK fun K162 hK163 => ?_
                          refine G.region ?_
                          refine GL.run (j := 1) 1 [4] [(4, .bool false)] (by kernel_rfl) rfl ?_
                          refine GL.k rfl hK163 (fun _ _ h => h) ?_
                          refine G.ret ?_
                          intro F_ hF_ hM_
                          refine hRet _ _ (bodyPost_1 rfl (RV.tmp rfl) ?_ F_ hF_ hM_)
                          exfalso
                          omega
                      · skip
                        have hb160f := of_decide_eq_true hb160
                        cases hb164 : (decide ((max p (k j) - min p (k j)) * 1000 ≤ p * m))
                        · skip
                          have hb164f := of_decide_eq_false hb164
                          refine GP.run [29, 30] [2, 5, 7, 8, 10, 11, 61, 62, 63, 137] [(2, pt p3 0), (5, pt p17 0), (7, .int .u64 (p : Int)), (8, .int .u64 (t : Int)), (10, pt p95 0), (11, .int .i64 (wn : Int)), (61, .slice A n c0), (62, .int .i64 (n : Int)), (63, .int .i64 (j : Int)), (137, .bool true)] [0, 1, 2, 3, 4, 5, 6, 7, 8, 9, 10, 11, 12, 13, 19, 20, 21, 14, 15, 16, 17, 18, 22, 23, 24, 25, 26, 27, 28, 29, 30] (by kernel_rfl) rfl hS159 ?_
                          refine GP.k (by kernel_rfl) hK138 (fun _ _ h => h) ?_
                          refine G.yes rfl ?_
                          refine G.seqK fun K165 hK166 => ?_
                          refine G.region ?_
                          refine GL.run (j := 1) 1 [4] [(4, .bool false)] (by kernel_rfl) rfl ?_
                          refine GL.k rfl hK166 (fun _ _ h => h) ?_
                          refine G.ret ?_
                          intro F_ hF_ hM_
                          refine hRet _ _ (bodyPost_1 rfl (RV.tmp rfl) ?_ F_ hF_ hM_)
                          exfalso
                          omega
                        · skip
                          have hb164f := of_decide_eq_true hb164
                          refine GP.run [29, 30] [2, 5, 7, 8, 10, 11, 61, 62, 63, 137] [(2, pt p3 0), (5, pt p17 0), (7, .int .u64 (p : Int)), (8, .int .u64 (t : Int)), (10, pt p95 0), (11, .int .i64 (wn : Int)), (61, .slice A n c0), (62, .int .i64 (n : Int)), (63, .int .i64 (j : Int)), (137, .bool false)] [0, 1, 2, 3, 4, 5, 6, 7, 8, 9, 10, 11, 12, 13, 19, 20, 21, 14, 15, 16, 17, 18, 22, 23, 24, 25, 26, 27, 28, 29, 30] (by kernel_rfl) rfl hS159 ?_
                          refine GP.k (by kernel_rfl) hK138 (fun _ _ h => h) ?_
                          refine G.no rfl ?_
                          refine G.skipK hK136 (fun _ _ h => h) ?_
                          refine G.fit [2, 5, 7, 8, 10, 11, 61, 62, 63] (M' := [(2, pt p3 0), (5, pt p17 0), (7, .int .u64 (p : Int)), (8, .int .u64 (t : Int)), (10, pt p95 0), (11, .int .i64 (wn : Int)), (61, .slice A n c0), (62, .int .i64 (n : Int)), (63, .int .i64 (j : Int))]) (by kernel_rfl) ?_
                          exact J134 () _ ⟨trivial, H157⟩
                    · skip
                      have hb155f := eq_of_beq hb155
                      refine GP.run [22, 23, 24, 25, 26, 27, 28] [2, 5, 7, 8, 10, 11, 61, 62, 63, 115, 125, 135] [(2, pt p3 0), (5, pt p17 0), (7, .int .u64 (p : Int)), (8, .int .u64 (t : Int)), (10, pt p95 0), (11, .int .i64 (wn : Int)), (61, .slice A n c0), (62, .int .i64 (n : Int)), (63, .int .i64 (j : Int)), (115, .bool true), (125, .bool (decide (((k j : Nat) : Int) ≤ (((highV m p) : Nat) : Int)))), (135, .bool true)] [0, 1, 2, 3, 4, 5, 6, 7, 8, 9, 10, 11, 12, 13, 19, 20, 21, 14, 15, 16, 17, 18, 22, 23, 24, 25, 26, 27, 28] (by kernel_rfl) rfl hS141 ?_
                      cases hb167 : (decide (((k j : Nat) : Int) ≤ (((highV m p) : Nat) : Int)))
                      · skip
                        have hb167f := of_decide_eq_false hb167
                        refine GP.run [29, 30] [2, 5, 7, 8, 10, 11, 61, 62, 63, 137] [(2, pt p3 0), (5, pt p17 0), (7, .int .u64 (p : Int)), (8, .int .u64 (t : Int)), (10, pt p95 0), (11, .int .i64 (wn : Int)), (61, .slice A n c0), (62, .int .i64 (n : Int)), (63, .int .i64 (j : Int)), (137, .bool true)] [0, 1, 2, 3, 4, 5, 6, 7, 8, 9, 10, 11, 12, 13, 19, 20, 21, 14, 15, 16, 17, 18, 22, 23, 24, 25, 26, 27, 28, 29, 30] (by kernel_rfl) rfl hS141 ?_
                        refine GP.k (by kernel_rfl) hK138 (fun _ _ h => h) ?_
                        refine G.yes rfl ?_
                        refine G.seqK fun K168 hK169 => ?_
                        refine G.region ?_
                        refine GL.run (j := 1) 1 [4] [(4, .bool false)] (by kernel_rfl) rfl ?_
                        refine GL.k rfl hK169 (fun _ _ h => h) ?_
                        refine G.ret ?_
                        intro F_ hF_ hM_
                        refine hRet _ _ (bodyPost_1 rfl (RV.tmp rfl) ?_ F_ hF_ hM_)
                        exfalso
                        omega
                      · skip
                        have hb167f := of_decide_eq_true hb167
                        refine GP.run [29, 30] [2, 5, 7, 8, 10, 11, 61, 62, 63, 137] [(2, pt p3 0), (5, pt p17 0), (7, .int .u64 (p : Int)), (8, .int .u64 (t : Int)), (10, pt p95 0), (11, .int .i64 (wn : Int)), (61, .slice A n c0), (62, .int .i64 (n : Int)), (63, .int .i64 (j : Int)), (137, .bool false)] [0, 1, 2, 3, 4, 5, 6, 7, 8, 9, 10, 11, 12, 13, 19, 20, 21, 14, 15, 16, 17, 18, 22, 23, 24, 25, 26, 27, 28, 29, 30] (by kernel_rfl) rfl hS141 ?_
                        refine GP.k (by kernel_rfl) hK138 (fun _ _ h => h) ?_
                        refine G.no rfl ?_
                        refine G.skipK hK136 (fun _ _ h => h) ?_
                        refine G.fit [2, 5, 7, 8, 10, 11, 61, 62, 63] (M' := [(2, pt p3 0), (5, pt p17 0), (7, .int .u64 (p : Int)), (8, .int .u64 (t : Int)), (10, pt p95 0), (11, .int .i64 (wn : Int)), (61, .slice A n c0), (62, .int .i64 (n : Int)), (63, .int .i64 (j : Int))]) (by kernel_rfl) ?_
                        exact J134 () _ ⟨trivial, H139⟩
            · skip
              rintro _ w170 ⟨hi171, H172⟩
              refine G.eq (M' := [(2, pt p3 0), (5, pt p17 0), (7, .int .u64 (p : Int)), (8, .int .u64 (t : Int)), (10, pt p95 0), (11, .int .i64 (wn : Int)), (61, .slice A n c0), (62, .int .i64 (n : Int)), (63, .int .i64 (j : Int))]) rfl ?_
              have H172 : Hp w [] [.blk p3 [.int .u64 (m : Int), .int .u64 (g : Int)] 30, .blk p17 [.int .u64 (m : Int), .int .u64 (g : Int), .int .u64 (p : Int), .int .u64 (t : Int)] 46, .blk p95 [.int .u64 ((k j : Nat) : Int), .int .u64 ((f j : Nat) : Int), .int .u64 ((h j : Nat) : Int)] 39] w170 := H172
              refine G.seqK fun K173 hK174 => ?_
              refine G.seqK fun K175 hK176 => ?_
              refine G.region ?_
              refine GL.run (j := 2) 2 [2, 5, 7, 8, 10, 11, 61, 62, 63, 138, 139] [(2, pt p3 0), (5, pt p17 0), (7, .int .u64 (p : Int)), (8, .int .u64 (t : Int)), (10, pt p95 0), (11, .int .i64 (wn : Int)), (61, .slice A n c0), (62, .int .i64 (n : Int)), (63, .int .i64 (j : Int)), (138, pt p17 0), (139, pt p95 0)] (by kernel_rfl) rfl ?_
              refine GL.sem (j := 3) (H172.ld (o := 0) (ty := 23) (v := .int .u64 ((k j : Nat) : Int)) 2 rfl (by kernel_rfl) rfl) [2, 5, 7, 8, 10, 11, 61, 62, 63, 138, 140] [(2, pt p3 0), (5, pt p17 0), (7, .int .u64 (p : Int)), (8, .int .u64 (t : Int)), (10, pt p95 0), (11, .int .i64 (wn : Int)), (61, .slice A n c0), (62, .int .i64 (n : Int)), (63, .int .i64 (j : Int)), (138, pt p17 0), (140, .int .u64 ((k j : Nat) : Int))] (by kernel_rfl) (by kernel_rfl) rfl ?_
              refine GL.run (j := 4) 1 [2, 5, 7, 8, 10, 11, 61, 62, 63, 138, 140, 141] [(2, pt p3 0), (5, pt p17 0), (7, .int .u64 (p : Int)), (8, .int .u64 (t : Int)), (10, pt p95 0), (11, .int .i64 (wn : Int)), (61, .slice A n c0), (62, .int .i64 (n : Int)), (63, .int .i64 (j : Int)), (138, pt p17 0), (140, .int .u64 ((k j : Nat) : Int)), (141, pt p95 1)] (by kernel_rfl) rfl ?_
              refine GL.sem (j := 5) (H172.ld (o := 1) (ty := 22) (v := .int .u64 ((f j : Nat) : Int)) 2 rfl (by kernel_rfl) rfl) [2, 5, 7, 8, 10, 11, 61, 62, 63, 138, 140, 142] [(2, pt p3 0), (5, pt p17 0), (7, .int .u64 (p : Int)), (8, .int .u64 (t : Int)), (10, pt p95 0), (11, .int .i64 (wn : Int)), (61, .slice A n c0), (62, .int .i64 (n : Int)), (63, .int .i64 (j : Int)), (138, pt p17 0), (140, .int .u64 ((k j : Nat) : Int)), (142, .int .u64 ((f j : Nat) : Int))] (by kernel_rfl) (by kernel_rfl) rfl ?_
              have hcw177 := set_cases m p t (k j) (f j)
              refine GL.call (j := 6) (Set_calls p17 m g p t (k j) (f j) (by omega) (by omega) (by omega) (by omega) (by omega) w170 (H172.blkAt 1 rfl)) (by kernel_rfl) rfl (fun e_ w177 hR => ?_)
              obtain ⟨rfl, H179⟩ := hR
              have H178 : Hp w [] [.blk p3 [.int .u64 (m : Int), .int .u64 (g : Int)] 30, .blk p17 [.int .u64 (m : Int), .int .u64 (g : Int), .int .u64 (((setP m p t (k j) (f j)) : Nat) : Int), .int .u64 (((setT m p t (k j) (f j)) : Nat) : Int)] 46, .blk p95 [.int .u64 ((k j : Nat) : Int), .int .u64 ((f j : Nat) : Int), .int .u64 ((h j : Nat) : Int)] 39] w177 := H172.callIn 1 rfl H179
              refine ⟨_, rfl, [2, 5, 7, 8, 10, 11, 61, 62, 63, 143], [(2, pt p3 0), (5, pt p17 0), (7, .int .u64 (p : Int)), (8, .int .u64 (t : Int)), (10, pt p95 0), (11, .int .i64 (wn : Int)), (61, .slice A n c0), (62, .int .i64 (n : Int)), (63, .int .i64 (j : Int)), (143, .int .i64 (((setE m p t (k j) (f j)) : Nat) : Int))], by kernel_rfl, ?_⟩
              refine GL.run (j := 8) 2 [2, 5, 7, 8, 10, 11, 61, 62, 63, 145] [(2, pt p3 0), (5, pt p17 0), (7, .int .u64 (p : Int)), (8, .int .u64 (t : Int)), (10, pt p95 0), (11, .int .i64 (wn : Int)), (61, .slice A n c0), (62, .int .i64 (n : Int)), (63, .int .i64 (j : Int)), (145, .bool ((((setE m p t (k j) (f j)) : Nat) : Int) != (wn : Int)))] (by kernel_rfl) rfl ?_
              refine GL.k rfl hK176 (fun _ _ h => h) ?_
              have hb180 : ((((setE m p t (k j) (f j)) : Nat) : Int) != (wn : Int)) = false := by rw [hwn]; exact bne_self_eq_false _
              rw [hb180]
              refine G.no rfl ?_
              refine G.skipK hK174 (fun _ _ h => h) ?_
              refine G.seqJ (X := Nat × Nat) (fun ⟨p1, t1⟩ => [(2, pt p3 0), (5, pt p17 0), (7, .int .u64 (p1 : Int)), (8, .int .u64 (t1 : Int)), (10, pt p95 0), (61, .slice A n c0), (62, .int .i64 (n : Int)), (63, .int .i64 (j : Int))]) (fun ⟨p1, t1⟩ w_ => (p1 = setP m p t (k j) (f j) ∧ t1 = setT m p t (k j) (f j)) ∧ Hp w [] [.blk p3 [.int .u64 (m : Int), .int .u64 (g : Int)] 30, .blk p17 [.int .u64 (m : Int), .int .u64 (g : Int), .int .u64 (p1 : Int), .int .u64 (t1 : Int)] 46, .blk p95 [.int .u64 ((k j : Nat) : Int), .int .u64 ((f j : Nat) : Int), .int .u64 ((h j : Nat) : Int)] 39] w_) (fun J181 K182 hK183 => ?_) ?_
              · skip
                refine G.seqK fun K184 hK185 => ?_
                refine G.region ?_
                refine GL.run (j := 2) 2 [2, 5, 7, 8, 10, 61, 62, 63, 147] [(2, pt p3 0), (5, pt p17 0), (7, .int .u64 (p : Int)), (8, .int .u64 (t : Int)), (10, pt p95 0), (61, .slice A n c0), (62, .int .i64 (n : Int)), (63, .int .i64 (j : Int)), (147, .bool ((wn : Int) == 0))] (by kernel_rfl) rfl ?_
                refine GL.k rfl hK185 (fun _ _ h => h) ?_
                cases hb186 : ((wn : Int) == 0)
                · skip
                  have hb186f := ne_of_beq_false hb186
                  refine G.no rfl ?_
                  refine G.skipK hK183 (fun _ _ h => h) ?_
                  have e1 : setP m p t (k j) (f j) = p := by omega
                  have e2 : setT m p t (k j) (f j) = t := by omega
                  refine G.fit [2, 5, 7, 8, 10, 61, 62, 63] (M' := [(2, pt p3 0), (5, pt p17 0), (7, .int .u64 (p : Int)), (8, .int .u64 (t : Int)), (10, pt p95 0), (61, .slice A n c0), (62, .int .i64 (n : Int)), (63, .int .i64 (j : Int))]) (by kernel_rfl) ?_
                  refine G.eq (M' := [(2, pt p3 0), (5, pt p17 0), (7, .int .u64 (((setP m p t (k j) (f j)) : Nat) : Int)), (8, .int .u64 (((setT m p t (k j) (f j)) : Nat) : Int)), (10, pt p95 0), (61, .slice A n c0), (62, .int .i64 (n : Int)), (63, .int .i64 (j : Int))]) (by rw [e1, e2]) ?_
                  exact J181 ⟨(setP m p t (k j) (f j)), (setT m p t (k j) (f j))⟩ _ ⟨⟨rfl, rfl⟩, H178⟩
                · skip
                  have hb186f := eq_of_beq hb186
                  refine G.yes rfl ?_
                  refine G.draw H178 (by kernel_rfl) (by kernel_rfl) ?_
                  refine GQ.run (j := 1) 1 [2, 5, 10, 61, 62, 63, 148] [(2, pt p3 0), (5, pt p17 0), (10, pt p95 0), (61, .slice A n c0), (62, .int .i64 (n : Int)), (63, .int .i64 (j : Int)), (148, pt p95 0)] (by kernel_rfl) rfl ?_
                  refine GQ.sem (j := 2) (fun w_ H_ => H_.ld (o := 0) (ty := 23) (v := .int .u64 ((k j : Nat) : Int)) 2 rfl (by kernel_rfl) rfl) [2, 5, 10, 61, 62, 63, 149] [(2, pt p3 0), (5, pt p17 0), (10, pt p95 0), (61, .slice A n c0), (62, .int .i64 (n : Int)), (63, .int .i64 (j : Int)), (149, .int .u64 ((k j : Nat) : Int))] (by kernel_rfl) (by kernel_rfl) rfl ?_
                  refine GQ.run (j := 3) 1 [2, 5, 10, 61, 62, 63, 149, 150] [(2, pt p3 0), (5, pt p17 0), (10, pt p95 0), (61, .slice A n c0), (62, .int .i64 (n : Int)), (63, .int .i64 (j : Int)), (149, .int .u64 ((k j : Nat) : Int)), (150, pt p95 1)] (by kernel_rfl) rfl ?_
                  refine GQ.sem (j := 4) (fun w_ H_ => H_.ld (o := 1) (ty := 22) (v := .int .u64 ((f j : Nat) : Int)) 2 rfl (by kernel_rfl) rfl) [2, 5, 10, 61, 62, 63, 149, 151] [(2, pt p3 0), (5, pt p17 0), (10, pt p95 0), (61, .slice A n c0), (62, .int .i64 (n : Int)), (63, .int .i64 (j : Int)), (149, .int .u64 ((k j : Nat) : Int)), (151, .int .u64 ((f j : Nat) : Int))] (by kernel_rfl) (by kernel_rfl) rfl ?_
                  refine GQ.run (j := 6) 2 [2, 5, 7, 8, 10, 61, 62, 63] [(2, pt p3 0), (5, pt p17 0), (7, .int .u64 ((k j : Nat) : Int)), (8, .int .u64 ((f j : Nat) : Int)), (10, pt p95 0), (61, .slice A n c0), (62, .int .i64 (n : Int)), (63, .int .i64 (j : Int))] (by kernel_rfl) rfl ?_
                  refine GQ.k rfl hK183 (fun _ _ h => h) (fun w187 H188 => ?_)
                  have e1 : setP m p t (k j) (f j) = (k j) := by omega
                  have e2 : setT m p t (k j) (f j) = (f j) := by omega
                  refine G.fit [2, 5, 7, 8, 10, 61, 62, 63] (M' := [(2, pt p3 0), (5, pt p17 0), (7, .int .u64 ((k j : Nat) : Int)), (8, .int .u64 ((f j : Nat) : Int)), (10, pt p95 0), (61, .slice A n c0), (62, .int .i64 (n : Int)), (63, .int .i64 (j : Int))]) (by kernel_rfl) ?_
                  refine G.eq (M' := [(2, pt p3 0), (5, pt p17 0), (7, .int .u64 (((setP m p t (k j) (f j)) : Nat) : Int)), (8, .int .u64 (((setT m p t (k j) (f j)) : Nat) : Int)), (10, pt p95 0), (61, .slice A n c0), (62, .int .i64 (n : Int)), (63, .int .i64 (j : Int))]) (by rw [e1, e2]) ?_
                  exact J181 ⟨(setP m p t (k j) (f j)), (setT m p t (k j) (f j))⟩ _ ⟨⟨rfl, rfl⟩, H188⟩
              · skip
                rintro ⟨p1, t1⟩ w189 ⟨hi190, H191⟩
                refine G.eq (M' := [(2, pt p3 0), (5, pt p17 0), (7, .int .u64 (p1 : Int)), (8, .int .u64 (t1 : Int)), (10, pt p95 0), (61, .slice A n c0), (62, .int .i64 (n : Int)), (63, .int .i64 (j : Int))]) rfl ?_
                have H191 : Hp w [] [.blk p3 [.int .u64 (m : Int), .int .u64 (g : Int)] 30, .blk p17 [.int .u64 (m : Int), .int .u64 (g : Int), .int .u64 (p1 : Int), .int .u64 (t1 : Int)] 46, .blk p95 [.int .u64 ((k j : Nat) : Int), .int .u64 ((f j : Nat) : Int), .int .u64 ((h j : Nat) : Int)] 39] w189 := H191
                obtain ⟨hp1, ht1⟩ := hi190
                have hp1b : p1 ≤ 1099511627776 := by omega
                have ht1b : t1 ≤ 1099511627776 := by omega
                have cP := price_cases g p1 t1 (h j)
                refine G.seqK fun K192 hK193 => ?_
                refine G.region ?_
                refine GL.run (j := 2) 2 [2, 5, 7, 8, 10, 61, 62, 63, 153, 154] [(2, pt p3 0), (5, pt p17 0), (7, .int .u64 (p1 : Int)), (8, .int .u64 (t1 : Int)), (10, pt p95 0), (61, .slice A n c0), (62, .int .i64 (n : Int)), (63, .int .i64 (j : Int)), (153, pt p17 0), (154, pt p95 2)] (by kernel_rfl) rfl ?_
                refine GL.sem (j := 3) (H191.ld (o := 2) (ty := 22) (v := .int .u64 ((h j : Nat) : Int)) 2 rfl (by kernel_rfl) rfl) [2, 5, 7, 8, 10, 61, 62, 63, 153, 155] [(2, pt p3 0), (5, pt p17 0), (7, .int .u64 (p1 : Int)), (8, .int .u64 (t1 : Int)), (10, pt p95 0), (61, .slice A n c0), (62, .int .i64 (n : Int)), (63, .int .i64 (j : Int)), (153, pt p17 0), (155, .int .u64 ((h j : Nat) : Int))] (by kernel_rfl) (by kernel_rfl) rfl ?_
                refine GL.call (j := 4) (Price_calls p17 m g p1 t1 (h j) (by omega) (by omega) w189 (H191.blkAt 1 rfl)) (by kernel_rfl) rfl (fun e_ w194 hR => ?_)
                obtain ⟨rfl, H196⟩ := hR
                have H195 : Hp w [] [.blk p3 [.int .u64 (m : Int), .int .u64 (g : Int)] 30, .blk p17 [.int .u64 (m : Int), .int .u64 (g : Int), .int .u64 (p1 : Int), .int .u64 (t1 : Int)] 46, .blk p95 [.int .u64 ((k j : Nat) : Int), .int .u64 ((f j : Nat) : Int), .int .u64 ((h j : Nat) : Int)] 39] w194 := H191.callIn 1 rfl H196
                refine ⟨_, rfl, [2, 5, 7, 8, 10, 61, 62, 63, 156], [(2, pt p3 0), (5, pt p17 0), (7, .int .u64 (p1 : Int)), (8, .int .u64 (t1 : Int)), (10, pt p95 0), (61, .slice A n c0), (62, .int .i64 (n : Int)), (63, .int .i64 (j : Int)), (156, .tuple #[.int .u64 (((priceV g p1 t1 (h j)) : Nat) : Int), .int .i64 (((priceE g p1 t1 (h j)) : Nat) : Int)])], by kernel_rfl, ?_⟩
                refine GL.run (j := 9) 5 [2, 5, 7, 8, 10, 14, 15, 61, 62, 63] [(2, pt p3 0), (5, pt p17 0), (7, .int .u64 (p1 : Int)), (8, .int .u64 (t1 : Int)), (10, pt p95 0), (14, .int .u64 (((priceV g p1 t1 (h j)) : Nat) : Int)), (15, .int .i64 (((priceE g p1 t1 (h j)) : Nat) : Int)), (61, .slice A n c0), (62, .int .i64 (n : Int)), (63, .int .i64 (j : Int))] (by kernel_rfl) rfl ?_
                refine GL.k rfl hK193 (fun _ _ h => h) ?_
                refine G.seqK fun K197 hK198 => ?_
                refine G.region ?_
                refine GL.run (j := 1) 1 [2, 5, 7, 8, 10, 14, 15, 16, 61, 62, 63] [(2, pt p3 0), (5, pt p17 0), (7, .int .u64 (p1 : Int)), (8, .int .u64 (t1 : Int)), (10, pt p95 0), (14, .int .u64 (((priceV g p1 t1 (h j)) : Nat) : Int)), (15, .int .i64 (((priceE g p1 t1 (h j)) : Nat) : Int)), (16, .int .i64 0), (61, .slice A n c0), (62, .int .i64 (n : Int)), (63, .int .i64 (j : Int))] (by kernel_rfl) rfl ?_
                refine GL.k rfl hK198 (fun _ _ h => h) ?_
                refine G.seqJ (X := Nat) (fun gd => [(2, pt p3 0), (5, pt p17 0), (7, .int .u64 (p1 : Int)), (8, .int .u64 (t1 : Int)), (14, .int .u64 (((priceV g p1 t1 (h j)) : Nat) : Int)), (15, .int .i64 (((priceE g p1 t1 (h j)) : Nat) : Int)), (16, .int .i64 (gd : Int)), (61, .slice A n c0), (62, .int .i64 (n : Int)), (63, .int .i64 (j : Int))]) (fun gd w_ => (gd = priceE g p1 t1 (h j)) ∧ Hp w [] [.blk p3 [.int .u64 (m : Int), .int .u64 (g : Int)] 30, .blk p17 [.int .u64 (m : Int), .int .u64 (g : Int), .int .u64 (p1 : Int), .int .u64 (t1 : Int)] 46, .blk p95 [.int .u64 ((k j : Nat) : Int), .int .u64 ((f j : Nat) : Int), .int .u64 ((h j : Nat) : Int)] 39] w_) (fun J199 K200 hK201 => ?_) ?_
                · skip
                  refine G.block ?_
                  refine G.seqK fun K202 hK203 => ?_
                  refine G.region ?_
                  refine GL.run (j := 3) 3 [2, 5, 7, 8, 10, 14, 15, 16, 61, 62, 63, 159] [(2, pt p3 0), (5, pt p17 0), (7, .int .u64 (p1 : Int)), (8, .int .u64 (t1 : Int)), (10, pt p95 0), (14, .int .u64 (((priceV g p1 t1 (h j)) : Nat) : Int)), (15, .int .i64 (((priceE g p1 t1 (h j)) : Nat) : Int)), (16, .int .i64 0), (61, .slice A n c0), (62, .int .i64 (n : Int)), (63, .int .i64 (j : Int)), (159, .bool ((p1 : Int) == 0))] (by kernel_rfl) rfl ?_
                  refine GL.k rfl hK203 (fun _ _ h => h) ?_
                  cases hb204 : ((p1 : Int) == 0)
                  · skip
                    have hb204f := ne_of_beq_false hb204
                    refine G.no rfl ?_
                    refine G.seqK fun K205 hK206 => ?_
                    refine G.region ?_
                    refine GL.run (j := 1) 1 [2, 5, 7, 8, 10, 14, 15, 16, 61, 62, 63, 163] [(2, pt p3 0), (5, pt p17 0), (7, .int .u64 (p1 : Int)), (8, .int .u64 (t1 : Int)), (10, pt p95 0), (14, .int .u64 (((priceV g p1 t1 (h j)) : Nat) : Int)), (15, .int .i64 (((priceE g p1 t1 (h j)) : Nat) : Int)), (16, .int .i64 0), (61, .slice A n c0), (62, .int .i64 (n : Int)), (63, .int .i64 (j : Int)), (163, pt p95 2)] (by kernel_rfl) rfl ?_
                    refine GL.sem (j := 2) (H195.ld (o := 2) (ty := 22) (v := .int .u64 ((h j : Nat) : Int)) 2 rfl (by kernel_rfl) rfl) [2, 5, 7, 8, 10, 14, 15, 16, 61, 62, 63, 164] [(2, pt p3 0), (5, pt p17 0), (7, .int .u64 (p1 : Int)), (8, .int .u64 (t1 : Int)), (10, pt p95 0), (14, .int .u64 (((priceV g p1 t1 (h j)) : Nat) : Int)), (15, .int .i64 (((priceE g p1 t1 (h j)) : Nat) : Int)), (16, .int .i64 0), (61, .slice A n c0), (62, .int .i64 (n : Int)), (63, .int .i64 (j : Int)), (164, .int .u64 ((h j : Nat) : Int))] (by kernel_rfl) (by kernel_rfl) rfl ?_
                    refine GL.run (j := 5) 3 [2, 5, 7, 8, 10, 14, 15, 16, 61, 62, 63, 162] [(2, pt p3 0), (5, pt p17 0), (7, .int .u64 (p1 : Int)), (8, .int .u64 (t1 : Int)), (10, pt p95 0), (14, .int .u64 (((priceV g p1 t1 (h j)) : Nat) : Int)), (15, .int .i64 (((priceE g p1 t1 (h j)) : Nat) : Int)), (16, .int .i64 0), (61, .slice A n c0), (62, .int .i64 (n : Int)), (63, .int .i64 (j : Int)), (162, .bool (decide (((h j : Nat) : Int) < (t1 : Int))))] (by kernel_rfl) rfl ?_
                    refine GL.k rfl hK206 (fun _ _ h => h) ?_
                    cases hb207 : (decide (((h j : Nat) : Int) < (t1 : Int)))
                    · skip
                      have hb207f := of_decide_eq_false hb207
                      refine G.no rfl ?_
                      refine G.seqK fun K208 hK209 => ?_
                      refine G.region ?_
                      refine GL.run (j := 1) 1 [2, 5, 7, 8, 14, 15, 16, 61, 62, 63, 168] [(2, pt p3 0), (5, pt p17 0), (7, .int .u64 (p1 : Int)), (8, .int .u64 (t1 : Int)), (14, .int .u64 (((priceV g p1 t1 (h j)) : Nat) : Int)), (15, .int .i64 (((priceE g p1 t1 (h j)) : Nat) : Int)), (16, .int .i64 0), (61, .slice A n c0), (62, .int .i64 (n : Int)), (63, .int .i64 (j : Int)), (168, pt p95 2)] (by kernel_rfl) rfl ?_
                      refine GL.sem (j := 2) (H195.ld (o := 2) (ty := 22) (v := .int .u64 ((h j : Nat) : Int)) 2 rfl (by kernel_rfl) rfl) [2, 5, 7, 8, 14, 15, 16, 61, 62, 63, 169] [(2, pt p3 0), (5, pt p17 0), (7, .int .u64 (p1 : Int)), (8, .int .u64 (t1 : Int)), (14, .int .u64 (((priceV g p1 t1 (h j)) : Nat) : Int)), (15, .int .i64 (((priceE g p1 t1 (h j)) : Nat) : Int)), (16, .int .i64 0), (61, .slice A n c0), (62, .int .i64 (n : Int)), (63, .int .i64 (j : Int)), (169, .int .u64 ((h j : Nat) : Int))] (by kernel_rfl) (by kernel_rfl) rfl ?_
                      refine GL.run (j := 5) 3 [2, 5, 7, 8, 14, 15, 16, 61, 62, 63, 171, 172] [(2, pt p3 0), (5, pt p17 0), (7, .int .u64 (p1 : Int)), (8, .int .u64 (t1 : Int)), (14, .int .u64 (((priceV g p1 t1 (h j)) : Nat) : Int)), (15, .int .i64 (((priceE g p1 t1 (h j)) : Nat) : Int)), (16, .int .i64 0), (61, .slice A n c0), (62, .int .i64 (n : Int)), (63, .int .i64 (j : Int)), (171, .int .u64 (IntKind.u64.wrap (((h j : Nat) : Int) - (t1 : Int)))), (172, pt p3 1)] (by kernel_rfl) rfl ?_
                      have e210 : (IntKind.u64.wrap (((h j : Nat) : Int) - (t1 : Int))) = (((h j) - t1 : Nat) : Int) := n_sub (a := (h j)) (b := t1) (by omega) (by omega)
                      refine GL.eq (M' := [(2, pt p3 0), (5, pt p17 0), (7, .int .u64 (p1 : Int)), (8, .int .u64 (t1 : Int)), (14, .int .u64 (((priceV g p1 t1 (h j)) : Nat) : Int)), (15, .int .i64 (((priceE g p1 t1 (h j)) : Nat) : Int)), (16, .int .i64 0), (61, .slice A n c0), (62, .int .i64 (n : Int)), (63, .int .i64 (j : Int)), (171, .int .u64 (((h j) - t1 : Nat) : Int)), (172, pt p3 1)]) (by rw [e210]) ?_
                      clear e210
                      refine GL.sem (j := 6) (H195.ld (o := 1) (ty := 22) (v := .int .u64 (g : Int)) 0 rfl (by kernel_rfl) rfl) [2, 5, 7, 8, 14, 15, 16, 61, 62, 63, 171, 173] [(2, pt p3 0), (5, pt p17 0), (7, .int .u64 (p1 : Int)), (8, .int .u64 (t1 : Int)), (14, .int .u64 (((priceV g p1 t1 (h j)) : Nat) : Int)), (15, .int .i64 (((priceE g p1 t1 (h j)) : Nat) : Int)), (16, .int .i64 0), (61, .slice A n c0), (62, .int .i64 (n : Int)), (63, .int .i64 (j : Int)), (171, .int .u64 (((h j) - t1 : Nat) : Int)), (173, .int .u64 (g : Int))] (by kernel_rfl) (by kernel_rfl) rfl ?_
                      refine GL.run (j := 8) 2 [2, 5, 7, 8, 14, 15, 16, 61, 62, 63, 167] [(2, pt p3 0), (5, pt p17 0), (7, .int .u64 (p1 : Int)), (8, .int .u64 (t1 : Int)), (14, .int .u64 (((priceV g p1 t1 (h j)) : Nat) : Int)), (15, .int .i64 (((priceE g p1 t1 (h j)) : Nat) : Int)), (16, .int .i64 0), (61, .slice A n c0), (62, .int .i64 (n : Int)), (63, .int .i64 (j : Int)), (167, .bool (decide ((g : Int) < (((h j) - t1 : Nat) : Int))))] (by kernel_rfl) rfl ?_
                      refine GL.k rfl hK209 (fun _ _ h => h) ?_
                      cases hb211 : (decide ((g : Int) < (((h j) - t1 : Nat) : Int)))
                      · skip
                        have hb211f := of_decide_eq_false hb211
                        refine G.no rfl ?_
                        refine G.skipK hK201 (fun _ _ h => h) ?_
                        have eG : 0 = priceE g p1 t1 (h j) := by omega
                        refine G.fit [2, 5, 7, 8, 14, 15, 16, 61, 62, 63] (M' := [(2, pt p3 0), (5, pt p17 0), (7, .int .u64 (p1 : Int)), (8, .int .u64 (t1 : Int)), (14, .int .u64 (((priceV g p1 t1 (h j)) : Nat) : Int)), (15, .int .i64 (((priceE g p1 t1 (h j)) : Nat) : Int)), (16, .int .i64 0), (61, .slice A n c0), (62, .int .i64 (n : Int)), (63, .int .i64 (j : Int))]) (by kernel_rfl) ?_
                        exact J199 0 _ ⟨eG, H195⟩
                      · skip
                        have hb211f := of_decide_eq_true hb211
                        refine G.yes rfl ?_
                        refine G.region ?_
                        refine GL.run (j := 1) 1 [2, 5, 7, 8, 14, 15, 16, 61, 62, 63] [(2, pt p3 0), (5, pt p17 0), (7, .int .u64 (p1 : Int)), (8, .int .u64 (t1 : Int)), (14, .int .u64 (((priceV g p1 t1 (h j)) : Nat) : Int)), (15, .int .i64 (((priceE g p1 t1 (h j)) : Nat) : Int)), (16, .int .i64 18), (61, .slice A n c0), (62, .int .i64 (n : Int)), (63, .int .i64 (j : Int))] (by kernel_rfl) rfl ?_
                        refine GL.k rfl hK201 (fun _ _ h => h) ?_
                        have eG : 18 = priceE g p1 t1 (h j) := by omega
                        refine G.fit [2, 5, 7, 8, 14, 15, 16, 61, 62, 63] (M' := [(2, pt p3 0), (5, pt p17 0), (7, .int .u64 (p1 : Int)), (8, .int .u64 (t1 : Int)), (14, .int .u64 (((priceV g p1 t1 (h j)) : Nat) : Int)), (15, .int .i64 (((priceE g p1 t1 (h j)) : Nat) : Int)), (16, .int .i64 18), (61, .slice A n c0), (62, .int .i64 (n : Int)), (63, .int .i64 (j : Int))]) (by kernel_rfl) ?_
                        exact J199 18 _ ⟨eG, H195⟩
                    · skip
                      have hb207f := of_decide_eq_true hb207
                      refine G.yes rfl ?_
                      refine G.region ?_
                      refine GL.run (j := 1) 1 [2, 5, 7, 8, 14, 15, 16, 61, 62, 63] [(2, pt p3 0), (5, pt p17 0), (7, .int .u64 (p1 : Int)), (8, .int .u64 (t1 : Int)), (14, .int .u64 (((priceV g p1 t1 (h j)) : Nat) : Int)), (15, .int .i64 (((priceE g p1 t1 (h j)) : Nat) : Int)), (16, .int .i64 11), (61, .slice A n c0), (62, .int .i64 (n : Int)), (63, .int .i64 (j : Int))] (by kernel_rfl) rfl ?_
                      refine GL.k rfl hK201 (fun _ _ h => h) ?_
                      have eG : 11 = priceE g p1 t1 (h j) := by omega
                      refine G.fit [2, 5, 7, 8, 14, 15, 16, 61, 62, 63] (M' := [(2, pt p3 0), (5, pt p17 0), (7, .int .u64 (p1 : Int)), (8, .int .u64 (t1 : Int)), (14, .int .u64 (((priceV g p1 t1 (h j)) : Nat) : Int)), (15, .int .i64 (((priceE g p1 t1 (h j)) : Nat) : Int)), (16, .int .i64 11), (61, .slice A n c0), (62, .int .i64 (n : Int)), (63, .int .i64 (j : Int))]) (by kernel_rfl) ?_
                      exact J199 11 _ ⟨eG, H195⟩
                  · skip
                    have hb204f := eq_of_beq hb204
                    refine G.yes rfl ?_
                    refine G.region ?_
                    refine GL.run (j := 1) 1 [2, 5, 7, 8, 14, 15, 16, 61, 62, 63] [(2, pt p3 0), (5, pt p17 0), (7, .int .u64 (p1 : Int)), (8, .int .u64 (t1 : Int)), (14, .int .u64 (((priceV g p1 t1 (h j)) : Nat) : Int)), (15, .int .i64 (((priceE g p1 t1 (h j)) : Nat) : Int)), (16, .int .i64 12), (61, .slice A n c0), (62, .int .i64 (n : Int)), (63, .int .i64 (j : Int))] (by kernel_rfl) rfl ?_
                    refine GL.k rfl hK201 (fun _ _ h => h) ?_
                    have eG : 12 = priceE g p1 t1 (h j) := by omega
                    refine G.fit [2, 5, 7, 8, 14, 15, 16, 61, 62, 63] (M' := [(2, pt p3 0), (5, pt p17 0), (7, .int .u64 (p1 : Int)), (8, .int .u64 (t1 : Int)), (14, .int .u64 (((priceV g p1 t1 (h j)) : Nat) : Int)), (15, .int .i64 (((priceE g p1 t1 (h j)) : Nat) : Int)), (16, .int .i64 12), (61, .slice A n c0), (62, .int .i64 (n : Int)), (63, .int .i64 (j : Int))]) (by kernel_rfl) ?_
                    exact J199 12 _ ⟨eG, H195⟩
                · skip
                  rintro gd w212 ⟨hi213, H214⟩
                  refine G.eq (M' := [(2, pt p3 0), (5, pt p17 0), (7, .int .u64 (p1 : Int)), (8, .int .u64 (t1 : Int)), (14, .int .u64 (((priceV g p1 t1 (h j)) : Nat) : Int)), (15, .int .i64 (((priceE g p1 t1 (h j)) : Nat) : Int)), (16, .int .i64 (gd : Int)), (61, .slice A n c0), (62, .int .i64 (n : Int)), (63, .int .i64 (j : Int))]) rfl ?_
                  have H214 : Hp w [] [.blk p3 [.int .u64 (m : Int), .int .u64 (g : Int)] 30, .blk p17 [.int .u64 (m : Int), .int .u64 (g : Int), .int .u64 (p1 : Int), .int .u64 (t1 : Int)] 46, .blk p95 [.int .u64 ((k j : Nat) : Int), .int .u64 ((f j : Nat) : Int), .int .u64 ((h j : Nat) : Int)] 39] w212 := H214
                  have hgd := hi213
                  refine G.seqK fun K215 hK216 => ?_
                  refine G.region ?_
                  refine GL.run (j := 1) 1 [2, 5, 7, 8, 14, 15, 16, 61, 62, 63, 176] [(2, pt p3 0), (5, pt p17 0), (7, .int .u64 (p1 : Int)), (8, .int .u64 (t1 : Int)), (14, .int .u64 (((priceV g p1 t1 (h j)) : Nat) : Int)), (15, .int .i64 (((priceE g p1 t1 (h j)) : Nat) : Int)), (16, .int .i64 (gd : Int)), (61, .slice A n c0), (62, .int .i64 (n : Int)), (63, .int .i64 (j : Int)), (176, pt p17 0)] (by kernel_rfl) rfl ?_
                  refine GL.call (j := 2) (Last_calls p17 m g p1 t1 w212 (H214.blkAt 1 rfl)) (by kernel_rfl) rfl (fun e_ w217 hR => ?_)
                  obtain ⟨rfl, H219⟩ := hR
                  have H218 : Hp w [] [.blk p3 [.int .u64 (m : Int), .int .u64 (g : Int)] 30, .blk p17 [.int .u64 (m : Int), .int .u64 (g : Int), .int .u64 (p1 : Int), .int .u64 (t1 : Int)] 46, .blk p95 [.int .u64 ((k j : Nat) : Int), .int .u64 ((f j : Nat) : Int), .int .u64 ((h j : Nat) : Int)] 39] w217 := H214.callIn 1 rfl H219
                  refine ⟨_, rfl, [2, 5, 7, 8, 14, 15, 16, 61, 62, 63, 177], [(2, pt p3 0), (5, pt p17 0), (7, .int .u64 (p1 : Int)), (8, .int .u64 (t1 : Int)), (14, .int .u64 (((priceV g p1 t1 (h j)) : Nat) : Int)), (15, .int .i64 (((priceE g p1 t1 (h j)) : Nat) : Int)), (16, .int .i64 (gd : Int)), (61, .slice A n c0), (62, .int .i64 (n : Int)), (63, .int .i64 (j : Int)), (177, .tuple #[.int .u64 (p1 : Int), .int .u64 (t1 : Int), .bool (decide (0 < p1))])], by kernel_rfl, ?_⟩
                  refine GL.run (j := 9) 7 [2, 5, 7, 8, 14, 15, 16, 17, 18, 19, 61, 62, 63] [(2, pt p3 0), (5, pt p17 0), (7, .int .u64 (p1 : Int)), (8, .int .u64 (t1 : Int)), (14, .int .u64 (((priceV g p1 t1 (h j)) : Nat) : Int)), (15, .int .i64 (((priceE g p1 t1 (h j)) : Nat) : Int)), (16, .int .i64 (gd : Int)), (17, .int .u64 (p1 : Int)), (18, .int .u64 (t1 : Int)), (19, .bool (decide (0 < p1))), (61, .slice A n c0), (62, .int .i64 (n : Int)), (63, .int .i64 (j : Int))] (by kernel_rfl) rfl ?_
                  refine GL.k rfl hK216 (fun _ _ h => h) ?_
                  refine G.seqK fun K220 hK221 => ?_
                  refine G.region ?_
                  refine GL.run (j := 4) 4 [2, 5, 7, 8, 14, 15, 17, 18, 19, 61, 62, 63, 184] [(2, pt p3 0), (5, pt p17 0), (7, .int .u64 (p1 : Int)), (8, .int .u64 (t1 : Int)), (14, .int .u64 (((priceV g p1 t1 (h j)) : Nat) : Int)), (15, .int .i64 (((priceE g p1 t1 (h j)) : Nat) : Int)), (17, .int .u64 (p1 : Int)), (18, .int .u64 (t1 : Int)), (19, .bool (decide (0 < p1))), (61, .slice A n c0), (62, .int .i64 (n : Int)), (63, .int .i64 (j : Int)), (184, .bool ((((priceE g p1 t1 (h j)) : Nat) : Int) != (gd : Int)))] (by kernel_rfl) rfl ?_
                  have hb222 : ((((priceE g p1 t1 (h j)) : Nat) : Int) != (gd : Int)) = false := by rw [hgd]; exact bne_self_eq_false _
                  rw [hb222]
                  refine GL.run (j := 10) 6 [2, 5, 7, 8, 14, 15, 17, 18, 19, 61, 62, 63, 184, 186, 190] [(2, pt p3 0), (5, pt p17 0), (7, .int .u64 (p1 : Int)), (8, .int .u64 (t1 : Int)), (14, .int .u64 (((priceV g p1 t1 (h j)) : Nat) : Int)), (15, .int .i64 (((priceE g p1 t1 (h j)) : Nat) : Int)), (17, .int .u64 (p1 : Int)), (18, .int .u64 (t1 : Int)), (19, .bool (decide (0 < p1))), (61, .slice A n c0), (62, .int .i64 (n : Int)), (63, .int .i64 (j : Int)), (184, .bool false), (186, .bool ((((priceE g p1 t1 (h j)) : Nat) : Int) == 0)), (190, .bool ((((priceV g p1 t1 (h j)) : Nat) : Int) == (p1 : Int)))] (by kernel_rfl) rfl ?_
                  cases hb223 : ((((priceV g p1 t1 (h j)) : Nat) : Int) == (p1 : Int))
                  · skip
                    have hb223f := ne_of_beq_false hb223
                    refine GL.run (j := 13) 3 [2, 5, 7, 8, 14, 15, 17, 18, 19, 61, 62, 63, 184, 186, 193] [(2, pt p3 0), (5, pt p17 0), (7, .int .u64 (p1 : Int)), (8, .int .u64 (t1 : Int)), (14, .int .u64 (((priceV g p1 t1 (h j)) : Nat) : Int)), (15, .int .i64 (((priceE g p1 t1 (h j)) : Nat) : Int)), (17, .int .u64 (p1 : Int)), (18, .int .u64 (t1 : Int)), (19, .bool (decide (0 < p1))), (61, .slice A n c0), (62, .int .i64 (n : Int)), (63, .int .i64 (j : Int)), (184, .bool false), (186, .bool ((((priceE g p1 t1 (h j)) : Nat) : Int) == 0)), (193, .bool false)] (by kernel_rfl) rfl ?_
                    cases hb224 : ((((priceE g p1 t1 (h j)) : Nat) : Int) == 0)
                    · skip
                      have hb224f := ne_of_beq_false hb224
                      refine GL.run (j := 19) 6 [2, 5, 7, 8, 14, 17, 18, 19, 61, 62, 63, 196, 199] [(2, pt p3 0), (5, pt p17 0), (7, .int .u64 (p1 : Int)), (8, .int .u64 (t1 : Int)), (14, .int .u64 (((priceV g p1 t1 (h j)) : Nat) : Int)), (17, .int .u64 (p1 : Int)), (18, .int .u64 (t1 : Int)), (19, .bool (decide (0 < p1))), (61, .slice A n c0), (62, .int .i64 (n : Int)), (63, .int .i64 (j : Int)), (196, .bool false), (199, .bool ((((priceE g p1 t1 (h j)) : Nat) : Int) != 0))] (by kernel_rfl) rfl ?_
                      cases hb225 : ((((priceE g p1 t1 (h j)) : Nat) : Int) != 0)
                      · skip
                        have hb225f : (((priceE g p1 t1 (h j)) : Nat) : Int) = 0 := bne_eq_false_iff_eq.1 hb225
                        refine GL.run (j := 29) 10 [2, 5, 7, 8, 18, 19, 61, 62, 63, 209] [(2, pt p3 0), (5, pt p17 0), (7, .int .u64 (p1 : Int)), (8, .int .u64 (t1 : Int)), (18, .int .u64 (t1 : Int)), (19, .bool (decide (0 < p1))), (61, .slice A n c0), (62, .int .i64 (n : Int)), (63, .int .i64 (j : Int)), (209, .bool ((p1 : Int) != (p1 : Int)))] (by kernel_rfl) rfl ?_
                        have hb226 : ((p1 : Int) != (p1 : Int)) = false := bne_self_eq_false _
                        rw [hb226]
                        refine GL.run (j := 34) 5 [2, 5, 7, 8, 19, 61, 62, 63, 214] [(2, pt p3 0), (5, pt p17 0), (7, .int .u64 (p1 : Int)), (8, .int .u64 (t1 : Int)), (19, .bool (decide (0 < p1))), (61, .slice A n c0), (62, .int .i64 (n : Int)), (63, .int .i64 (j : Int)), (214, .bool ((t1 : Int) != (t1 : Int)))] (by kernel_rfl) rfl ?_
                        have hb227 : ((t1 : Int) != (t1 : Int)) = false := bne_self_eq_false _
                        rw [hb227]
                        refine GL.run (j := 37) 3 [2, 5, 7, 8, 61, 62, 63, 214, 215, 217] [(2, pt p3 0), (5, pt p17 0), (7, .int .u64 (p1 : Int)), (8, .int .u64 (t1 : Int)), (61, .slice A n c0), (62, .int .i64 (n : Int)), (63, .int .i64 (j : Int)), (214, .bool false), (215, .bool (decide (0 < p1))), (217, .bool (decide (0 < (p1 : Int))))] (by kernel_rfl) rfl ?_
                        cases hb228 : (decide (0 < p1))
                        · skip
                          have hb228f := of_decide_eq_false hb228
                          cases hb229 : (decide (0 < (p1 : Int)))
                          · skip
                            have hb229f := of_decide_eq_false hb229
                            refine GL.run (j := 39) 2 [2, 5, 7, 8, 61, 62, 63, 219] [(2, pt p3 0), (5, pt p17 0), (7, .int .u64 (p1 : Int)), (8, .int .u64 (t1 : Int)), (61, .slice A n c0), (62, .int .i64 (n : Int)), (63, .int .i64 (j : Int)), (219, .bool false)] (by kernel_rfl) rfl ?_
                            refine GL.k rfl hK221 (fun _ _ h => h) ?_
                            refine G.no rfl ?_
                            refine G.skipK hK92 (fun _ _ h => h) ?_
                            refine G.region ?_
                            refine GL.run (j := 2) 2 [2, 5, 7, 8, 61, 62, 63] [(2, pt p3 0), (5, pt p17 0), (7, .int .u64 (p1 : Int)), (8, .int .u64 (t1 : Int)), (61, .slice A n c0), (62, .int .i64 (n : Int)), (63, .int .i64 (IntKind.i64.wrap ((j : Int) + 1)))] (by kernel_rfl) rfl ?_
                            have e230 : (IntKind.i64.wrap ((j : Int) + 1)) = ((j + 1 : Nat) : Int) := by rw [in_i64 (by omega)]; omega
                            refine GL.eq (M' := [(2, pt p3 0), (5, pt p17 0), (7, .int .u64 (p1 : Int)), (8, .int .u64 (t1 : Int)), (61, .slice A n c0), (62, .int .i64 (n : Int)), (63, .int .i64 ((j + 1 : Nat) : Int))]) (by rw [e230]) ?_
                            clear e230
                            have H231 : Hp w [] [.blk p3 [.int .u64 (m : Int), .int .u64 (g : Int)] 30, .blk p17 [.int .u64 (m : Int), .int .u64 (g : Int), .int .u64 (p1 : Int), .int .u64 (t1 : Int)] 46] w217 := H218.sub (List.Sublist.cons_cons _ (List.Sublist.cons_cons _ (List.Sublist.cons _ (List.Sublist.slnil))))
                            refine GL.fit (ts := [2, 5, 7, 8, 61, 62, 63]) (M' := [(2, pt p3 0), (5, pt p17 0), (7, .int .u64 (p1 : Int)), (8, .int .u64 (t1 : Int)), (61, .slice A n c0), (62, .int .i64 (n : Int)), (63, .int .i64 ((j + 1 : Nat) : Int))]) (by kernel_rfl) ?_
                            refine GL.eq (M' := [(2, pt p3 0), (5, pt p17 0), (7, .int .u64 (p1 : Int)), (8, .int .u64 (t1 : Int)), (61, .slice A n c0), (62, .int .i64 (n : Int)), (63, .int .i64 (((j + 1) : Nat) : Int))]) (by rfl) ?_
                            exact GL.again ⟨(j + 1), p1, t1⟩ [2, 5, 7, 8, 61, 62, 63] rfl (by kernel_rfl) (by show n - (j + 1) < n - j; omega) ⟨⟨by omega, by omega, by omega⟩, H231⟩
                          · skip
                            have hb229f := of_decide_eq_true hb229
                            refine GL.run (j := 39) 2 [2, 5, 7, 8, 61, 62, 63, 219] [(2, pt p3 0), (5, pt p17 0), (7, .int .u64 (p1 : Int)), (8, .int .u64 (t1 : Int)), (61, .slice A n c0), (62, .int .i64 (n : Int)), (63, .int .i64 (j : Int)), (219, .bool true)] (by kernel_rfl) rfl ?_
                            refine GL.k rfl hK221 (fun _ _ h => h) ?_
                            refine G.yes rfl ?_
                            refine G.seqK fun K232 hK233 => ?_
                            refine G.region ?_
                            refine GL.run (j := 1) 1 [4] [(4, .bool false)] (by kernel_rfl) rfl ?_
                            refine GL.k rfl hK233 (fun _ _ h => h) ?_
                            refine G.ret ?_
                            intro F_ hF_ hM_
                            refine hRet _ _ (bodyPost_1 rfl (RV.tmp rfl) ?_ F_ hF_ hM_)
                            exfalso
                            omega
                        · skip
                          have hb228f := of_decide_eq_true hb228
                          cases hb234 : (decide (0 < (p1 : Int)))
                          · skip
                            have hb234f := of_decide_eq_false hb234
                            refine GL.run (j := 39) 2 [2, 5, 7, 8, 61, 62, 63, 219] [(2, pt p3 0), (5, pt p17 0), (7, .int .u64 (p1 : Int)), (8, .int .u64 (t1 : Int)), (61, .slice A n c0), (62, .int .i64 (n : Int)), (63, .int .i64 (j : Int)), (219, .bool true)] (by kernel_rfl) rfl ?_
                            refine GL.k rfl hK221 (fun _ _ h => h) ?_
                            refine G.yes rfl ?_
                            refine G.seqK fun K235 hK236 => ?_
                            refine G.region ?_
                            refine GL.run (j := 1) 1 [4] [(4, .bool false)] (by kernel_rfl) rfl ?_
                            refine GL.k rfl hK236 (fun _ _ h => h) ?_
                            refine G.ret ?_
                            intro F_ hF_ hM_
                            refine hRet _ _ (bodyPost_1 rfl (RV.tmp rfl) ?_ F_ hF_ hM_)
                            exfalso
                            omega
                          · skip
                            have hb234f := of_decide_eq_true hb234
                            refine GL.run (j := 39) 2 [2, 5, 7, 8, 61, 62, 63, 219] [(2, pt p3 0), (5, pt p17 0), (7, .int .u64 (p1 : Int)), (8, .int .u64 (t1 : Int)), (61, .slice A n c0), (62, .int .i64 (n : Int)), (63, .int .i64 (j : Int)), (219, .bool false)] (by kernel_rfl) rfl ?_
                            refine GL.k rfl hK221 (fun _ _ h => h) ?_
                            refine G.no rfl ?_
                            refine G.skipK hK92 (fun _ _ h => h) ?_
                            refine G.region ?_
                            refine GL.run (j := 2) 2 [2, 5, 7, 8, 61, 62, 63] [(2, pt p3 0), (5, pt p17 0), (7, .int .u64 (p1 : Int)), (8, .int .u64 (t1 : Int)), (61, .slice A n c0), (62, .int .i64 (n : Int)), (63, .int .i64 (IntKind.i64.wrap ((j : Int) + 1)))] (by kernel_rfl) rfl ?_
                            have e237 : (IntKind.i64.wrap ((j : Int) + 1)) = ((j + 1 : Nat) : Int) := by rw [in_i64 (by omega)]; omega
                            refine GL.eq (M' := [(2, pt p3 0), (5, pt p17 0), (7, .int .u64 (p1 : Int)), (8, .int .u64 (t1 : Int)), (61, .slice A n c0), (62, .int .i64 (n : Int)), (63, .int .i64 ((j + 1 : Nat) : Int))]) (by rw [e237]) ?_
                            clear e237
                            have H238 : Hp w [] [.blk p3 [.int .u64 (m : Int), .int .u64 (g : Int)] 30, .blk p17 [.int .u64 (m : Int), .int .u64 (g : Int), .int .u64 (p1 : Int), .int .u64 (t1 : Int)] 46] w217 := H218.sub (List.Sublist.cons_cons _ (List.Sublist.cons_cons _ (List.Sublist.cons _ (List.Sublist.slnil))))
                            refine GL.fit (ts := [2, 5, 7, 8, 61, 62, 63]) (M' := [(2, pt p3 0), (5, pt p17 0), (7, .int .u64 (p1 : Int)), (8, .int .u64 (t1 : Int)), (61, .slice A n c0), (62, .int .i64 (n : Int)), (63, .int .i64 ((j + 1 : Nat) : Int))]) (by kernel_rfl) ?_
                            refine GL.eq (M' := [(2, pt p3 0), (5, pt p17 0), (7, .int .u64 (p1 : Int)), (8, .int .u64 (t1 : Int)), (61, .slice A n c0), (62, .int .i64 (n : Int)), (63, .int .i64 (((j + 1) : Nat) : Int))]) (by rfl) ?_
                            exact GL.again ⟨(j + 1), p1, t1⟩ [2, 5, 7, 8, 61, 62, 63] rfl (by kernel_rfl) (by show n - (j + 1) < n - j; omega) ⟨⟨by omega, by omega, by omega⟩, H238⟩
                      · skip
                        have hb225f : (((priceE g p1 t1 (h j)) : Nat) : Int) ≠ 0 := bne_iff_ne.1 hb225
                        refine GL.run (j := 24) 5 [2, 5, 7, 8, 17, 18, 19, 61, 62, 63, 204] [(2, pt p3 0), (5, pt p17 0), (7, .int .u64 (p1 : Int)), (8, .int .u64 (t1 : Int)), (17, .int .u64 (p1 : Int)), (18, .int .u64 (t1 : Int)), (19, .bool (decide (0 < p1))), (61, .slice A n c0), (62, .int .i64 (n : Int)), (63, .int .i64 (j : Int)), (204, .bool ((((priceV g p1 t1 (h j)) : Nat) : Int) != 0))] (by kernel_rfl) rfl ?_
                        cases hb239 : ((((priceV g p1 t1 (h j)) : Nat) : Int) != 0)
                        · skip
                          have hb239f : (((priceV g p1 t1 (h j)) : Nat) : Int) = 0 := bne_eq_false_iff_eq.1 hb239
                          refine GL.run (j := 29) 5 [2, 5, 7, 8, 18, 19, 61, 62, 63, 209] [(2, pt p3 0), (5, pt p17 0), (7, .int .u64 (p1 : Int)), (8, .int .u64 (t1 : Int)), (18, .int .u64 (t1 : Int)), (19, .bool (decide (0 < p1))), (61, .slice A n c0), (62, .int .i64 (n : Int)), (63, .int .i64 (j : Int)), (209, .bool ((p1 : Int) != (p1 : Int)))] (by kernel_rfl) rfl ?_
                          have hb240 : ((p1 : Int) != (p1 : Int)) = false := bne_self_eq_false _
                          rw [hb240]
                          refine GL.run (j := 34) 5 [2, 5, 7, 8, 19, 61, 62, 63, 214] [(2, pt p3 0), (5, pt p17 0), (7, .int .u64 (p1 : Int)), (8, .int .u64 (t1 : Int)), (19, .bool (decide (0 < p1))), (61, .slice A n c0), (62, .int .i64 (n : Int)), (63, .int .i64 (j : Int)), (214, .bool ((t1 : Int) != (t1 : Int)))] (by kernel_rfl) rfl ?_
                          have hb241 : ((t1 : Int) != (t1 : Int)) = false := bne_self_eq_false _
                          rw [hb241]
                          refine GL.run (j := 37) 3 [2, 5, 7, 8, 61, 62, 63, 214, 215, 217] [(2, pt p3 0), (5, pt p17 0), (7, .int .u64 (p1 : Int)), (8, .int .u64 (t1 : Int)), (61, .slice A n c0), (62, .int .i64 (n : Int)), (63, .int .i64 (j : Int)), (214, .bool false), (215, .bool (decide (0 < p1))), (217, .bool (decide (0 < (p1 : Int))))] (by kernel_rfl) rfl ?_
                          cases hb242 : (decide (0 < p1))
                          · skip
                            have hb242f := of_decide_eq_false hb242
                            cases hb243 : (decide (0 < (p1 : Int)))
                            · skip
                              have hb243f := of_decide_eq_false hb243
                              refine GL.run (j := 39) 2 [2, 5, 7, 8, 61, 62, 63, 219] [(2, pt p3 0), (5, pt p17 0), (7, .int .u64 (p1 : Int)), (8, .int .u64 (t1 : Int)), (61, .slice A n c0), (62, .int .i64 (n : Int)), (63, .int .i64 (j : Int)), (219, .bool false)] (by kernel_rfl) rfl ?_
                              refine GL.k rfl hK221 (fun _ _ h => h) ?_
                              refine G.no rfl ?_
                              refine G.skipK hK92 (fun _ _ h => h) ?_
                              refine G.region ?_
                              refine GL.run (j := 2) 2 [2, 5, 7, 8, 61, 62, 63] [(2, pt p3 0), (5, pt p17 0), (7, .int .u64 (p1 : Int)), (8, .int .u64 (t1 : Int)), (61, .slice A n c0), (62, .int .i64 (n : Int)), (63, .int .i64 (IntKind.i64.wrap ((j : Int) + 1)))] (by kernel_rfl) rfl ?_
                              have e244 : (IntKind.i64.wrap ((j : Int) + 1)) = ((j + 1 : Nat) : Int) := by rw [in_i64 (by omega)]; omega
                              refine GL.eq (M' := [(2, pt p3 0), (5, pt p17 0), (7, .int .u64 (p1 : Int)), (8, .int .u64 (t1 : Int)), (61, .slice A n c0), (62, .int .i64 (n : Int)), (63, .int .i64 ((j + 1 : Nat) : Int))]) (by rw [e244]) ?_
                              clear e244
                              have H245 : Hp w [] [.blk p3 [.int .u64 (m : Int), .int .u64 (g : Int)] 30, .blk p17 [.int .u64 (m : Int), .int .u64 (g : Int), .int .u64 (p1 : Int), .int .u64 (t1 : Int)] 46] w217 := H218.sub (List.Sublist.cons_cons _ (List.Sublist.cons_cons _ (List.Sublist.cons _ (List.Sublist.slnil))))
                              refine GL.fit (ts := [2, 5, 7, 8, 61, 62, 63]) (M' := [(2, pt p3 0), (5, pt p17 0), (7, .int .u64 (p1 : Int)), (8, .int .u64 (t1 : Int)), (61, .slice A n c0), (62, .int .i64 (n : Int)), (63, .int .i64 ((j + 1 : Nat) : Int))]) (by kernel_rfl) ?_
                              refine GL.eq (M' := [(2, pt p3 0), (5, pt p17 0), (7, .int .u64 (p1 : Int)), (8, .int .u64 (t1 : Int)), (61, .slice A n c0), (62, .int .i64 (n : Int)), (63, .int .i64 (((j + 1) : Nat) : Int))]) (by rfl) ?_
                              exact GL.again ⟨(j + 1), p1, t1⟩ [2, 5, 7, 8, 61, 62, 63] rfl (by kernel_rfl) (by show n - (j + 1) < n - j; omega) ⟨⟨by omega, by omega, by omega⟩, H245⟩
                            · skip
                              have hb243f := of_decide_eq_true hb243
                              refine GL.run (j := 39) 2 [2, 5, 7, 8, 61, 62, 63, 219] [(2, pt p3 0), (5, pt p17 0), (7, .int .u64 (p1 : Int)), (8, .int .u64 (t1 : Int)), (61, .slice A n c0), (62, .int .i64 (n : Int)), (63, .int .i64 (j : Int)), (219, .bool true)] (by kernel_rfl) rfl ?_
                              refine GL.k rfl hK221 (fun _ _ h => h) ?_
                              refine G.yes rfl ?_
                              refine G.seqK fun K246 hK247 => ?_
                              refine G.region ?_
                              refine GL.run (j := 1) 1 [4] [(4, .bool false)] (by kernel_rfl) rfl ?_
                              refine GL.k rfl hK247 (fun _ _ h => h) ?_
                              refine G.ret ?_
                              intro F_ hF_ hM_
                              refine hRet _ _ (bodyPost_1 rfl (RV.tmp rfl) ?_ F_ hF_ hM_)
                              exfalso
                              omega
                          · skip
                            have hb242f := of_decide_eq_true hb242
                            cases hb248 : (decide (0 < (p1 : Int)))
                            · skip
                              have hb248f := of_decide_eq_false hb248
                              refine GL.run (j := 39) 2 [2, 5, 7, 8, 61, 62, 63, 219] [(2, pt p3 0), (5, pt p17 0), (7, .int .u64 (p1 : Int)), (8, .int .u64 (t1 : Int)), (61, .slice A n c0), (62, .int .i64 (n : Int)), (63, .int .i64 (j : Int)), (219, .bool true)] (by kernel_rfl) rfl ?_
                              refine GL.k rfl hK221 (fun _ _ h => h) ?_
                              refine G.yes rfl ?_
                              refine G.seqK fun K249 hK250 => ?_
                              refine G.region ?_
                              refine GL.run (j := 1) 1 [4] [(4, .bool false)] (by kernel_rfl) rfl ?_
                              refine GL.k rfl hK250 (fun _ _ h => h) ?_
                              refine G.ret ?_
                              intro F_ hF_ hM_
                              refine hRet _ _ (bodyPost_1 rfl (RV.tmp rfl) ?_ F_ hF_ hM_)
                              exfalso
                              omega
                            · skip
                              have hb248f := of_decide_eq_true hb248
                              refine GL.run (j := 39) 2 [2, 5, 7, 8, 61, 62, 63, 219] [(2, pt p3 0), (5, pt p17 0), (7, .int .u64 (p1 : Int)), (8, .int .u64 (t1 : Int)), (61, .slice A n c0), (62, .int .i64 (n : Int)), (63, .int .i64 (j : Int)), (219, .bool false)] (by kernel_rfl) rfl ?_
                              refine GL.k rfl hK221 (fun _ _ h => h) ?_
                              refine G.no rfl ?_
                              refine G.skipK hK92 (fun _ _ h => h) ?_
                              refine G.region ?_
                              refine GL.run (j := 2) 2 [2, 5, 7, 8, 61, 62, 63] [(2, pt p3 0), (5, pt p17 0), (7, .int .u64 (p1 : Int)), (8, .int .u64 (t1 : Int)), (61, .slice A n c0), (62, .int .i64 (n : Int)), (63, .int .i64 (IntKind.i64.wrap ((j : Int) + 1)))] (by kernel_rfl) rfl ?_
                              have e251 : (IntKind.i64.wrap ((j : Int) + 1)) = ((j + 1 : Nat) : Int) := by rw [in_i64 (by omega)]; omega
                              refine GL.eq (M' := [(2, pt p3 0), (5, pt p17 0), (7, .int .u64 (p1 : Int)), (8, .int .u64 (t1 : Int)), (61, .slice A n c0), (62, .int .i64 (n : Int)), (63, .int .i64 ((j + 1 : Nat) : Int))]) (by rw [e251]) ?_
                              clear e251
                              have H252 : Hp w [] [.blk p3 [.int .u64 (m : Int), .int .u64 (g : Int)] 30, .blk p17 [.int .u64 (m : Int), .int .u64 (g : Int), .int .u64 (p1 : Int), .int .u64 (t1 : Int)] 46] w217 := H218.sub (List.Sublist.cons_cons _ (List.Sublist.cons_cons _ (List.Sublist.cons _ (List.Sublist.slnil))))
                              refine GL.fit (ts := [2, 5, 7, 8, 61, 62, 63]) (M' := [(2, pt p3 0), (5, pt p17 0), (7, .int .u64 (p1 : Int)), (8, .int .u64 (t1 : Int)), (61, .slice A n c0), (62, .int .i64 (n : Int)), (63, .int .i64 ((j + 1 : Nat) : Int))]) (by kernel_rfl) ?_
                              refine GL.eq (M' := [(2, pt p3 0), (5, pt p17 0), (7, .int .u64 (p1 : Int)), (8, .int .u64 (t1 : Int)), (61, .slice A n c0), (62, .int .i64 (n : Int)), (63, .int .i64 (((j + 1) : Nat) : Int))]) (by rfl) ?_
                              exact GL.again ⟨(j + 1), p1, t1⟩ [2, 5, 7, 8, 61, 62, 63] rfl (by kernel_rfl) (by show n - (j + 1) < n - j; omega) ⟨⟨by omega, by omega, by omega⟩, H252⟩
                        · skip
                          have hb239f : (((priceV g p1 t1 (h j)) : Nat) : Int) ≠ 0 := bne_iff_ne.1 hb239
                          refine GL.run (j := 39) 15 [2, 5, 7, 8, 61, 62, 63, 219] [(2, pt p3 0), (5, pt p17 0), (7, .int .u64 (p1 : Int)), (8, .int .u64 (t1 : Int)), (61, .slice A n c0), (62, .int .i64 (n : Int)), (63, .int .i64 (j : Int)), (219, .bool true)] (by kernel_rfl) rfl ?_
                          refine GL.k rfl hK221 (fun _ _ h => h) ?_
                          refine G.yes rfl ?_
                          refine G.seqK fun K253 hK254 => ?_
                          refine G.region ?_
                          refine GL.run (j := 1) 1 [4] [(4, .bool false)] (by kernel_rfl) rfl ?_
                          refine GL.k rfl hK254 (fun _ _ h => h) ?_
                          refine G.ret ?_
                          intro F_ hF_ hM_
                          refine hRet _ _ (bodyPost_1 rfl (RV.tmp rfl) ?_ F_ hF_ hM_)
                          exfalso
                          omega
                    · skip
                      have hb224f := eq_of_beq hb224
                      refine GL.run (j := 39) 26 [2, 5, 7, 8, 61, 62, 63, 219] [(2, pt p3 0), (5, pt p17 0), (7, .int .u64 (p1 : Int)), (8, .int .u64 (t1 : Int)), (61, .slice A n c0), (62, .int .i64 (n : Int)), (63, .int .i64 (j : Int)), (219, .bool true)] (by kernel_rfl) rfl ?_
                      refine GL.k rfl hK221 (fun _ _ h => h) ?_
                      refine G.yes rfl ?_
                      refine G.seqK fun K255 hK256 => ?_
                      refine G.region ?_
                      refine GL.run (j := 1) 1 [4] [(4, .bool false)] (by kernel_rfl) rfl ?_
                      refine GL.k rfl hK256 (fun _ _ h => h) ?_
                      refine G.ret ?_
                      intro F_ hF_ hM_
                      refine hRet _ _ (bodyPost_1 rfl (RV.tmp rfl) ?_ F_ hF_ hM_)
                      exfalso
                      omega
                  · skip
                    have hb223f := eq_of_beq hb223
                    refine GL.run (j := 13) 3 [2, 5, 7, 8, 14, 15, 17, 18, 19, 61, 62, 63, 184, 186, 193] [(2, pt p3 0), (5, pt p17 0), (7, .int .u64 (p1 : Int)), (8, .int .u64 (t1 : Int)), (14, .int .u64 (((priceV g p1 t1 (h j)) : Nat) : Int)), (15, .int .i64 (((priceE g p1 t1 (h j)) : Nat) : Int)), (17, .int .u64 (p1 : Int)), (18, .int .u64 (t1 : Int)), (19, .bool (decide (0 < p1))), (61, .slice A n c0), (62, .int .i64 (n : Int)), (63, .int .i64 (j : Int)), (184, .bool false), (186, .bool ((((priceE g p1 t1 (h j)) : Nat) : Int) == 0)), (193, .bool (decide (0 < (((priceV g p1 t1 (h j)) : Nat) : Int))))] (by kernel_rfl) rfl ?_
                    cases hb257 : ((((priceE g p1 t1 (h j)) : Nat) : Int) == 0)
                    · skip
                      have hb257f := ne_of_beq_false hb257
                      cases hb258 : (decide (0 < (((priceV g p1 t1 (h j)) : Nat) : Int)))
                      · skip
                        have hb258f := of_decide_eq_false hb258
                        refine GL.run (j := 19) 6 [2, 5, 7, 8, 14, 17, 18, 19, 61, 62, 63, 196, 199] [(2, pt p3 0), (5, pt p17 0), (7, .int .u64 (p1 : Int)), (8, .int .u64 (t1 : Int)), (14, .int .u64 (((priceV g p1 t1 (h j)) : Nat) : Int)), (17, .int .u64 (p1 : Int)), (18, .int .u64 (t1 : Int)), (19, .bool (decide (0 < p1))), (61, .slice A n c0), (62, .int .i64 (n : Int)), (63, .int .i64 (j : Int)), (196, .bool false), (199, .bool ((((priceE g p1 t1 (h j)) : Nat) : Int) != 0))] (by kernel_rfl) rfl ?_
                        cases hb259 : ((((priceE g p1 t1 (h j)) : Nat) : Int) != 0)
                        · skip
                          have hb259f : (((priceE g p1 t1 (h j)) : Nat) : Int) = 0 := bne_eq_false_iff_eq.1 hb259
                          refine GL.run (j := 29) 10 [2, 5, 7, 8, 18, 19, 61, 62, 63, 209] [(2, pt p3 0), (5, pt p17 0), (7, .int .u64 (p1 : Int)), (8, .int .u64 (t1 : Int)), (18, .int .u64 (t1 : Int)), (19, .bool (decide (0 < p1))), (61, .slice A n c0), (62, .int .i64 (n : Int)), (63, .int .i64 (j : Int)), (209, .bool ((p1 : Int) != (p1 : Int)))] (by kernel_rfl) rfl ?_
                          have hb260 : ((p1 : Int) != (p1 : Int)) = false := bne_self_eq_false _
                          rw [hb260]
                          refine GL.run (j := 34) 5 [2, 5, 7, 8, 19, 61, 62, 63, 214] [(2, pt p3 0), (5, pt p17 0), (7, .int .u64 (p1 : Int)), (8, .int .u64 (t1 : Int)), (19, .bool (decide (0 < p1))), (61, .slice A n c0), (62, .int .i64 (n : Int)), (63, .int .i64 (j : Int)), (214, .bool ((t1 : Int) != (t1 : Int)))] (by kernel_rfl) rfl ?_
                          have hb261 : ((t1 : Int) != (t1 : Int)) = false := bne_self_eq_false _
                          rw [hb261]
                          refine GL.run (j := 37) 3 [2, 5, 7, 8, 61, 62, 63, 214, 215, 217] [(2, pt p3 0), (5, pt p17 0), (7, .int .u64 (p1 : Int)), (8, .int .u64 (t1 : Int)), (61, .slice A n c0), (62, .int .i64 (n : Int)), (63, .int .i64 (j : Int)), (214, .bool false), (215, .bool (decide (0 < p1))), (217, .bool (decide (0 < (p1 : Int))))] (by kernel_rfl) rfl ?_
                          cases hb262 : (decide (0 < p1))
                          · skip
                            have hb262f := of_decide_eq_false hb262
                            cases hb263 : (decide (0 < (p1 : Int)))
                            · skip
                              have hb263f := of_decide_eq_false hb263
                              refine GL.run (j := 39) 2 [2, 5, 7, 8, 61, 62, 63, 219] [(2, pt p3 0), (5, pt p17 0), (7, .int .u64 (p1 : Int)), (8, .int .u64 (t1 : Int)), (61, .slice A n c0), (62, .int .i64 (n : Int)), (63, .int .i64 (j : Int)), (219, .bool false)] (by kernel_rfl) rfl ?_
                              refine GL.k rfl hK221 (fun _ _ h => h) ?_
                              refine G.no rfl ?_
                              refine G.skipK hK92 (fun _ _ h => h) ?_
                              refine G.region ?_
                              refine GL.run (j := 2) 2 [2, 5, 7, 8, 61, 62, 63] [(2, pt p3 0), (5, pt p17 0), (7, .int .u64 (p1 : Int)), (8, .int .u64 (t1 : Int)), (61, .slice A n c0), (62, .int .i64 (n : Int)), (63, .int .i64 (IntKind.i64.wrap ((j : Int) + 1)))] (by kernel_rfl) rfl ?_
                              have e264 : (IntKind.i64.wrap ((j : Int) + 1)) = ((j + 1 : Nat) : Int) := by rw [in_i64 (by omega)]; omega
                              refine GL.eq (M' := [(2, pt p3 0), (5, pt p17 0), (7, .int .u64 (p1 : Int)), (8, .int .u64 (t1 : Int)), (61, .slice A n c0), (62, .int .i64 (n : Int)), (63, .int .i64 ((j + 1 : Nat) : Int))]) (by rw [e264]) ?_
                              clear e264
                              have H265 : Hp w [] [.blk p3 [.int .u64 (m : Int), .int .u64 (g : Int)] 30, .blk p17 [.int .u64 (m : Int), .int .u64 (g : Int), .int .u64 (p1 : Int), .int .u64 (t1 : Int)] 46] w217 := H218.sub (List.Sublist.cons_cons _ (List.Sublist.cons_cons _ (List.Sublist.cons _ (List.Sublist.slnil))))
                              refine GL.fit (ts := [2, 5, 7, 8, 61, 62, 63]) (M' := [(2, pt p3 0), (5, pt p17 0), (7, .int .u64 (p1 : Int)), (8, .int .u64 (t1 : Int)), (61, .slice A n c0), (62, .int .i64 (n : Int)), (63, .int .i64 ((j + 1 : Nat) : Int))]) (by kernel_rfl) ?_
                              refine GL.eq (M' := [(2, pt p3 0), (5, pt p17 0), (7, .int .u64 (p1 : Int)), (8, .int .u64 (t1 : Int)), (61, .slice A n c0), (62, .int .i64 (n : Int)), (63, .int .i64 (((j + 1) : Nat) : Int))]) (by rfl) ?_
                              exact GL.again ⟨(j + 1), p1, t1⟩ [2, 5, 7, 8, 61, 62, 63] rfl (by kernel_rfl) (by show n - (j + 1) < n - j; omega) ⟨⟨by omega, by omega, by omega⟩, H265⟩
                            · skip
                              have hb263f := of_decide_eq_true hb263
                              refine GL.run (j := 39) 2 [2, 5, 7, 8, 61, 62, 63, 219] [(2, pt p3 0), (5, pt p17 0), (7, .int .u64 (p1 : Int)), (8, .int .u64 (t1 : Int)), (61, .slice A n c0), (62, .int .i64 (n : Int)), (63, .int .i64 (j : Int)), (219, .bool true)] (by kernel_rfl) rfl ?_
                              refine GL.k rfl hK221 (fun _ _ h => h) ?_
                              refine G.yes rfl ?_
                              refine G.seqK fun K266 hK267 => ?_
                              refine G.region ?_
                              refine GL.run (j := 1) 1 [4] [(4, .bool false)] (by kernel_rfl) rfl ?_
                              refine GL.k rfl hK267 (fun _ _ h => h) ?_
                              refine G.ret ?_
                              intro F_ hF_ hM_
                              refine hRet _ _ (bodyPost_1 rfl (RV.tmp rfl) ?_ F_ hF_ hM_)
                              exfalso
                              omega
                          · skip
                            have hb262f := of_decide_eq_true hb262
                            cases hb268 : (decide (0 < (p1 : Int)))
                            · skip
                              have hb268f := of_decide_eq_false hb268
                              refine GL.run (j := 39) 2 [2, 5, 7, 8, 61, 62, 63, 219] [(2, pt p3 0), (5, pt p17 0), (7, .int .u64 (p1 : Int)), (8, .int .u64 (t1 : Int)), (61, .slice A n c0), (62, .int .i64 (n : Int)), (63, .int .i64 (j : Int)), (219, .bool true)] (by kernel_rfl) rfl ?_
                              refine GL.k rfl hK221 (fun _ _ h => h) ?_
                              refine G.yes rfl ?_
                              refine G.seqK fun K269 hK270 => ?_
                              refine G.region ?_
                              refine GL.run (j := 1) 1 [4] [(4, .bool false)] (by kernel_rfl) rfl ?_
                              refine GL.k rfl hK270 (fun _ _ h => h) ?_
                              refine G.ret ?_
                              intro F_ hF_ hM_
                              refine hRet _ _ (bodyPost_1 rfl (RV.tmp rfl) ?_ F_ hF_ hM_)
                              exfalso
                              omega
                            · skip
                              have hb268f := of_decide_eq_true hb268
                              refine GL.run (j := 39) 2 [2, 5, 7, 8, 61, 62, 63, 219] [(2, pt p3 0), (5, pt p17 0), (7, .int .u64 (p1 : Int)), (8, .int .u64 (t1 : Int)), (61, .slice A n c0), (62, .int .i64 (n : Int)), (63, .int .i64 (j : Int)), (219, .bool false)] (by kernel_rfl) rfl ?_
                              refine GL.k rfl hK221 (fun _ _ h => h) ?_
                              refine G.no rfl ?_
                              refine G.skipK hK92 (fun _ _ h => h) ?_
                              refine G.region ?_
                              refine GL.run (j := 2) 2 [2, 5, 7, 8, 61, 62, 63] [(2, pt p3 0), (5, pt p17 0), (7, .int .u64 (p1 : Int)), (8, .int .u64 (t1 : Int)), (61, .slice A n c0), (62, .int .i64 (n : Int)), (63, .int .i64 (IntKind.i64.wrap ((j : Int) + 1)))] (by kernel_rfl) rfl ?_
                              have e271 : (IntKind.i64.wrap ((j : Int) + 1)) = ((j + 1 : Nat) : Int) := by rw [in_i64 (by omega)]; omega
                              refine GL.eq (M' := [(2, pt p3 0), (5, pt p17 0), (7, .int .u64 (p1 : Int)), (8, .int .u64 (t1 : Int)), (61, .slice A n c0), (62, .int .i64 (n : Int)), (63, .int .i64 ((j + 1 : Nat) : Int))]) (by rw [e271]) ?_
                              clear e271
                              have H272 : Hp w [] [.blk p3 [.int .u64 (m : Int), .int .u64 (g : Int)] 30, .blk p17 [.int .u64 (m : Int), .int .u64 (g : Int), .int .u64 (p1 : Int), .int .u64 (t1 : Int)] 46] w217 := H218.sub (List.Sublist.cons_cons _ (List.Sublist.cons_cons _ (List.Sublist.cons _ (List.Sublist.slnil))))
                              refine GL.fit (ts := [2, 5, 7, 8, 61, 62, 63]) (M' := [(2, pt p3 0), (5, pt p17 0), (7, .int .u64 (p1 : Int)), (8, .int .u64 (t1 : Int)), (61, .slice A n c0), (62, .int .i64 (n : Int)), (63, .int .i64 ((j + 1 : Nat) : Int))]) (by kernel_rfl) ?_
                              refine GL.eq (M' := [(2, pt p3 0), (5, pt p17 0), (7, .int .u64 (p1 : Int)), (8, .int .u64 (t1 : Int)), (61, .slice A n c0), (62, .int .i64 (n : Int)), (63, .int .i64 (((j + 1) : Nat) : Int))]) (by rfl) ?_
                              exact GL.again ⟨(j + 1), p1, t1⟩ [2, 5, 7, 8, 61, 62, 63] rfl (by kernel_rfl) (by show n - (j + 1) < n - j; omega) ⟨⟨by omega, by omega, by omega⟩, H272⟩
                        · skip
                          have hb259f : (((priceE g p1 t1 (h j)) : Nat) : Int) ≠ 0 := bne_iff_ne.1 hb259
                          refine GL.run (j := 24) 5 [2, 5, 7, 8, 17, 18, 19, 61, 62, 63, 204] [(2, pt p3 0), (5, pt p17 0), (7, .int .u64 (p1 : Int)), (8, .int .u64 (t1 : Int)), (17, .int .u64 (p1 : Int)), (18, .int .u64 (t1 : Int)), (19, .bool (decide (0 < p1))), (61, .slice A n c0), (62, .int .i64 (n : Int)), (63, .int .i64 (j : Int)), (204, .bool ((((priceV g p1 t1 (h j)) : Nat) : Int) != 0))] (by kernel_rfl) rfl ?_
                          cases hb273 : ((((priceV g p1 t1 (h j)) : Nat) : Int) != 0)
                          · skip
                            have hb273f : (((priceV g p1 t1 (h j)) : Nat) : Int) = 0 := bne_eq_false_iff_eq.1 hb273
                            refine GL.run (j := 29) 5 [2, 5, 7, 8, 18, 19, 61, 62, 63, 209] [(2, pt p3 0), (5, pt p17 0), (7, .int .u64 (p1 : Int)), (8, .int .u64 (t1 : Int)), (18, .int .u64 (t1 : Int)), (19, .bool (decide (0 < p1))), (61, .slice A n c0), (62, .int .i64 (n : Int)), (63, .int .i64 (j : Int)), (209, .bool ((p1 : Int) != (p1 : Int)))] (by kernel_rfl) rfl ?_
                            have hb274 : ((p1 : Int) != (p1 : Int)) = false := bne_self_eq_false _
                            rw [hb274]
                            refine GL.run (j := 34) 5 [2, 5, 7, 8, 19, 61, 62, 63, 214] [(2, pt p3 0), (5, pt p17 0), (7, .int .u64 (p1 : Int)), (8, .int .u64 (t1 : Int)), (19, .bool (decide (0 < p1))), (61, .slice A n c0), (62, .int .i64 (n : Int)), (63, .int .i64 (j : Int)), (214, .bool ((t1 : Int) != (t1 : Int)))] (by kernel_rfl) rfl ?_
                            have hb275 : ((t1 : Int) != (t1 : Int)) = false := bne_self_eq_false _
                            rw [hb275]
                            refine GL.run (j := 37) 3 [2, 5, 7, 8, 61, 62, 63, 214, 215, 217] [(2, pt p3 0), (5, pt p17 0), (7, .int .u64 (p1 : Int)), (8, .int .u64 (t1 : Int)), (61, .slice A n c0), (62, .int .i64 (n : Int)), (63, .int .i64 (j : Int)), (214, .bool false), (215, .bool (decide (0 < p1))), (217, .bool (decide (0 < (p1 : Int))))] (by kernel_rfl) rfl ?_
                            cases hb276 : (decide (0 < p1))
                            · skip
                              have hb276f := of_decide_eq_false hb276
                              cases hb277 : (decide (0 < (p1 : Int)))
                              · skip
                                have hb277f := of_decide_eq_false hb277
                                refine GL.run (j := 39) 2 [2, 5, 7, 8, 61, 62, 63, 219] [(2, pt p3 0), (5, pt p17 0), (7, .int .u64 (p1 : Int)), (8, .int .u64 (t1 : Int)), (61, .slice A n c0), (62, .int .i64 (n : Int)), (63, .int .i64 (j : Int)), (219, .bool false)] (by kernel_rfl) rfl ?_
                                refine GL.k rfl hK221 (fun _ _ h => h) ?_
                                refine G.no rfl ?_
                                refine G.skipK hK92 (fun _ _ h => h) ?_
                                refine G.region ?_
                                refine GL.run (j := 2) 2 [2, 5, 7, 8, 61, 62, 63] [(2, pt p3 0), (5, pt p17 0), (7, .int .u64 (p1 : Int)), (8, .int .u64 (t1 : Int)), (61, .slice A n c0), (62, .int .i64 (n : Int)), (63, .int .i64 (IntKind.i64.wrap ((j : Int) + 1)))] (by kernel_rfl) rfl ?_
                                have e278 : (IntKind.i64.wrap ((j : Int) + 1)) = ((j + 1 : Nat) : Int) := by rw [in_i64 (by omega)]; omega
                                refine GL.eq (M' := [(2, pt p3 0), (5, pt p17 0), (7, .int .u64 (p1 : Int)), (8, .int .u64 (t1 : Int)), (61, .slice A n c0), (62, .int .i64 (n : Int)), (63, .int .i64 ((j + 1 : Nat) : Int))]) (by rw [e278]) ?_
                                clear e278
                                have H279 : Hp w [] [.blk p3 [.int .u64 (m : Int), .int .u64 (g : Int)] 30, .blk p17 [.int .u64 (m : Int), .int .u64 (g : Int), .int .u64 (p1 : Int), .int .u64 (t1 : Int)] 46] w217 := H218.sub (List.Sublist.cons_cons _ (List.Sublist.cons_cons _ (List.Sublist.cons _ (List.Sublist.slnil))))
                                refine GL.fit (ts := [2, 5, 7, 8, 61, 62, 63]) (M' := [(2, pt p3 0), (5, pt p17 0), (7, .int .u64 (p1 : Int)), (8, .int .u64 (t1 : Int)), (61, .slice A n c0), (62, .int .i64 (n : Int)), (63, .int .i64 ((j + 1 : Nat) : Int))]) (by kernel_rfl) ?_
                                refine GL.eq (M' := [(2, pt p3 0), (5, pt p17 0), (7, .int .u64 (p1 : Int)), (8, .int .u64 (t1 : Int)), (61, .slice A n c0), (62, .int .i64 (n : Int)), (63, .int .i64 (((j + 1) : Nat) : Int))]) (by rfl) ?_
                                exact GL.again ⟨(j + 1), p1, t1⟩ [2, 5, 7, 8, 61, 62, 63] rfl (by kernel_rfl) (by show n - (j + 1) < n - j; omega) ⟨⟨by omega, by omega, by omega⟩, H279⟩
                              · skip
                                have hb277f := of_decide_eq_true hb277
                                refine GL.run (j := 39) 2 [2, 5, 7, 8, 61, 62, 63, 219] [(2, pt p3 0), (5, pt p17 0), (7, .int .u64 (p1 : Int)), (8, .int .u64 (t1 : Int)), (61, .slice A n c0), (62, .int .i64 (n : Int)), (63, .int .i64 (j : Int)), (219, .bool true)] (by kernel_rfl) rfl ?_
                                refine GL.k rfl hK221 (fun _ _ h => h) ?_
                                refine G.yes rfl ?_
                                refine G.seqK fun K280 hK281 => ?_
                                refine G.region ?_
                                refine GL.run (j := 1) 1 [4] [(4, .bool false)] (by kernel_rfl) rfl ?_
                                refine GL.k rfl hK281 (fun _ _ h => h) ?_
                                refine G.ret ?_
                                intro F_ hF_ hM_
                                refine hRet _ _ (bodyPost_1 rfl (RV.tmp rfl) ?_ F_ hF_ hM_)
                                exfalso
                                omega
                            · skip
                              have hb276f := of_decide_eq_true hb276
                              cases hb282 : (decide (0 < (p1 : Int)))
                              · skip
                                have hb282f := of_decide_eq_false hb282
                                refine GL.run (j := 39) 2 [2, 5, 7, 8, 61, 62, 63, 219] [(2, pt p3 0), (5, pt p17 0), (7, .int .u64 (p1 : Int)), (8, .int .u64 (t1 : Int)), (61, .slice A n c0), (62, .int .i64 (n : Int)), (63, .int .i64 (j : Int)), (219, .bool true)] (by kernel_rfl) rfl ?_
                                refine GL.k rfl hK221 (fun _ _ h => h) ?_
                                refine G.yes rfl ?_
                                refine G.seqK fun K283 hK284 => ?_
                                refine G.region ?_
                                refine GL.run (j := 1) 1 [4] [(4, .bool false)] (by kernel_rfl) rfl ?_
                                refine GL.k rfl hK284 (fun _ _ h => h) ?_
                                refine G.ret ?_
                                intro F_ hF_ hM_
                                refine hRet _ _ (bodyPost_1 rfl (RV.tmp rfl) ?_ F_ hF_ hM_)
                                exfalso
                                omega
                              · skip
                                have hb282f := of_decide_eq_true hb282
                                refine GL.run (j := 39) 2 [2, 5, 7, 8, 61, 62, 63, 219] [(2, pt p3 0), (5, pt p17 0), (7, .int .u64 (p1 : Int)), (8, .int .u64 (t1 : Int)), (61, .slice A n c0), (62, .int .i64 (n : Int)), (63, .int .i64 (j : Int)), (219, .bool false)] (by kernel_rfl) rfl ?_
                                refine GL.k rfl hK221 (fun _ _ h => h) ?_
                                refine G.no rfl ?_
                                refine G.skipK hK92 (fun _ _ h => h) ?_
                                refine G.region ?_
                                refine GL.run (j := 2) 2 [2, 5, 7, 8, 61, 62, 63] [(2, pt p3 0), (5, pt p17 0), (7, .int .u64 (p1 : Int)), (8, .int .u64 (t1 : Int)), (61, .slice A n c0), (62, .int .i64 (n : Int)), (63, .int .i64 (IntKind.i64.wrap ((j : Int) + 1)))] (by kernel_rfl) rfl ?_
                                have e285 : (IntKind.i64.wrap ((j : Int) + 1)) = ((j + 1 : Nat) : Int) := by rw [in_i64 (by omega)]; omega
                                refine GL.eq (M' := [(2, pt p3 0), (5, pt p17 0), (7, .int .u64 (p1 : Int)), (8, .int .u64 (t1 : Int)), (61, .slice A n c0), (62, .int .i64 (n : Int)), (63, .int .i64 ((j + 1 : Nat) : Int))]) (by rw [e285]) ?_
                                clear e285
                                have H286 : Hp w [] [.blk p3 [.int .u64 (m : Int), .int .u64 (g : Int)] 30, .blk p17 [.int .u64 (m : Int), .int .u64 (g : Int), .int .u64 (p1 : Int), .int .u64 (t1 : Int)] 46] w217 := H218.sub (List.Sublist.cons_cons _ (List.Sublist.cons_cons _ (List.Sublist.cons _ (List.Sublist.slnil))))
                                refine GL.fit (ts := [2, 5, 7, 8, 61, 62, 63]) (M' := [(2, pt p3 0), (5, pt p17 0), (7, .int .u64 (p1 : Int)), (8, .int .u64 (t1 : Int)), (61, .slice A n c0), (62, .int .i64 (n : Int)), (63, .int .i64 ((j + 1 : Nat) : Int))]) (by kernel_rfl) ?_
                                refine GL.eq (M' := [(2, pt p3 0), (5, pt p17 0), (7, .int .u64 (p1 : Int)), (8, .int .u64 (t1 : Int)), (61, .slice A n c0), (62, .int .i64 (n : Int)), (63, .int .i64 (((j + 1) : Nat) : Int))]) (by rfl) ?_
                                exact GL.again ⟨(j + 1), p1, t1⟩ [2, 5, 7, 8, 61, 62, 63] rfl (by kernel_rfl) (by show n - (j + 1) < n - j; omega) ⟨⟨by omega, by omega, by omega⟩, H286⟩
                          · skip
                            have hb273f : (((priceV g p1 t1 (h j)) : Nat) : Int) ≠ 0 := bne_iff_ne.1 hb273
                            refine GL.run (j := 39) 15 [2, 5, 7, 8, 61, 62, 63, 219] [(2, pt p3 0), (5, pt p17 0), (7, .int .u64 (p1 : Int)), (8, .int .u64 (t1 : Int)), (61, .slice A n c0), (62, .int .i64 (n : Int)), (63, .int .i64 (j : Int)), (219, .bool true)] (by kernel_rfl) rfl ?_
                            refine GL.k rfl hK221 (fun _ _ h => h) ?_
                            refine G.yes rfl ?_
                            refine G.seqK fun K287 hK288 => ?_
                            refine G.region ?_
                            refine GL.run (j := 1) 1 [4] [(4, .bool false)] (by kernel_rfl) rfl ?_
                            refine GL.k rfl hK288 (fun _ _ h => h) ?_
                            refine G.ret ?_
                            intro F_ hF_ hM_
                            refine hRet _ _ (bodyPost_1 rfl (RV.tmp rfl) ?_ F_ hF_ hM_)
                            exfalso
                            omega
                      · skip
                        have hb258f := of_decide_eq_true hb258
                        refine GL.run (j := 39) 26 [2, 5, 7, 8, 61, 62, 63, 219] [(2, pt p3 0), (5, pt p17 0), (7, .int .u64 (p1 : Int)), (8, .int .u64 (t1 : Int)), (61, .slice A n c0), (62, .int .i64 (n : Int)), (63, .int .i64 (j : Int)), (219, .bool true)] (by kernel_rfl) rfl ?_
                        refine GL.k rfl hK221 (fun _ _ h => h) ?_
                        refine G.yes rfl ?_
                        refine G.seqK fun K289 hK290 => ?_
                        refine G.region ?_
                        refine GL.run (j := 1) 1 [4] [(4, .bool false)] (by kernel_rfl) rfl ?_
                        refine GL.k rfl hK290 (fun _ _ h => h) ?_
                        refine G.ret ?_
                        intro F_ hF_ hM_
                        refine hRet _ _ (bodyPost_1 rfl (RV.tmp rfl) ?_ F_ hF_ hM_)
                        exfalso
                        omega
                    · skip
                      have hb257f := eq_of_beq hb257
                      cases hb291 : (decide (0 < (((priceV g p1 t1 (h j)) : Nat) : Int)))
                      · skip
                        have hb291f := of_decide_eq_false hb291
                        refine GL.run (j := 39) 26 [2, 5, 7, 8, 61, 62, 63, 219] [(2, pt p3 0), (5, pt p17 0), (7, .int .u64 (p1 : Int)), (8, .int .u64 (t1 : Int)), (61, .slice A n c0), (62, .int .i64 (n : Int)), (63, .int .i64 (j : Int)), (219, .bool true)] (by kernel_rfl) rfl ?_
                        refine GL.k rfl hK221 (fun _ _ h => h) ?_
                        refine G.yes rfl ?_
                        refine G.seqK fun K292 hK293 => ?_
                        refine G.region ?_
                        refine GL.run (j := 1) 1 [4] [(4, .bool false)] (by kernel_rfl) rfl ?_
                        refine GL.k rfl hK293 (fun _ _ h => h) ?_
                        refine G.ret ?_
                        intro F_ hF_ hM_
                        refine hRet _ _ (bodyPost_1 rfl (RV.tmp rfl) ?_ F_ hF_ hM_)
                        exfalso
                        omega
                      · skip
                        have hb291f := of_decide_eq_true hb291
                        refine GL.run (j := 19) 6 [2, 5, 7, 8, 14, 17, 18, 19, 61, 62, 63, 196, 199] [(2, pt p3 0), (5, pt p17 0), (7, .int .u64 (p1 : Int)), (8, .int .u64 (t1 : Int)), (14, .int .u64 (((priceV g p1 t1 (h j)) : Nat) : Int)), (17, .int .u64 (p1 : Int)), (18, .int .u64 (t1 : Int)), (19, .bool (decide (0 < p1))), (61, .slice A n c0), (62, .int .i64 (n : Int)), (63, .int .i64 (j : Int)), (196, .bool false), (199, .bool ((((priceE g p1 t1 (h j)) : Nat) : Int) != 0))] (by kernel_rfl) rfl ?_
                        cases hb294 : ((((priceE g p1 t1 (h j)) : Nat) : Int) != 0)
                        · skip
                          have hb294f : (((priceE g p1 t1 (h j)) : Nat) : Int) = 0 := bne_eq_false_iff_eq.1 hb294
                          refine GL.run (j := 29) 10 [2, 5, 7, 8, 18, 19, 61, 62, 63, 209] [(2, pt p3 0), (5, pt p17 0), (7, .int .u64 (p1 : Int)), (8, .int .u64 (t1 : Int)), (18, .int .u64 (t1 : Int)), (19, .bool (decide (0 < p1))), (61, .slice A n c0), (62, .int .i64 (n : Int)), (63, .int .i64 (j : Int)), (209, .bool ((p1 : Int) != (p1 : Int)))] (by kernel_rfl) rfl ?_
                          have hb295 : ((p1 : Int) != (p1 : Int)) = false := bne_self_eq_false _
                          rw [hb295]
                          refine GL.run (j := 34) 5 [2, 5, 7, 8, 19, 61, 62, 63, 214] [(2, pt p3 0), (5, pt p17 0), (7, .int .u64 (p1 : Int)), (8, .int .u64 (t1 : Int)), (19, .bool (decide (0 < p1))), (61, .slice A n c0), (62, .int .i64 (n : Int)), (63, .int .i64 (j : Int)), (214, .bool ((t1 : Int) != (t1 : Int)))] (by kernel_rfl) rfl ?_
                          have hb296 : ((t1 : Int) != (t1 : Int)) = false := bne_self_eq_false _
                          rw [hb296]
                          refine GL.run (j := 37) 3 [2, 5, 7, 8, 61, 62, 63, 214, 215, 217] [(2, pt p3 0), (5, pt p17 0), (7, .int .u64 (p1 : Int)), (8, .int .u64 (t1 : Int)), (61, .slice A n c0), (62, .int .i64 (n : Int)), (63, .int .i64 (j : Int)), (214, .bool false), (215, .bool (decide (0 < p1))), (217, .bool (decide (0 < (p1 : Int))))] (by kernel_rfl) rfl ?_
                          cases hb297 : (decide (0 < p1))
                          · skip
                            have hb297f := of_decide_eq_false hb297
                            cases hb298 : (decide (0 < (p1 : Int)))
                            · skip
                              have hb298f := of_decide_eq_false hb298
                              refine GL.run (j := 39) 2 [2, 5, 7, 8, 61, 62, 63, 219] [(2, pt p3 0), (5, pt p17 0), (7, .int .u64 (p1 : Int)), (8, .int .u64 (t1 : Int)), (61, .slice A n c0), (62, .int .i64 (n : Int)), (63, .int .i64 (j : Int)), (219, .bool false)] (by kernel_rfl) rfl ?_
                              refine GL.k rfl hK221 (fun _ _ h => h) ?_
                              refine G.no rfl ?_
                              refine G.skipK hK92 (fun _ _ h => h) ?_
                              refine G.region ?_
                              refine GL.run (j := 2) 2 [2, 5, 7, 8, 61, 62, 63] [(2, pt p3 0), (5, pt p17 0), (7, .int .u64 (p1 : Int)), (8, .int .u64 (t1 : Int)), (61, .slice A n c0), (62, .int .i64 (n : Int)), (63, .int .i64 (IntKind.i64.wrap ((j : Int) + 1)))] (by kernel_rfl) rfl ?_
                              have e299 : (IntKind.i64.wrap ((j : Int) + 1)) = ((j + 1 : Nat) : Int) := by rw [in_i64 (by omega)]; omega
                              refine GL.eq (M' := [(2, pt p3 0), (5, pt p17 0), (7, .int .u64 (p1 : Int)), (8, .int .u64 (t1 : Int)), (61, .slice A n c0), (62, .int .i64 (n : Int)), (63, .int .i64 ((j + 1 : Nat) : Int))]) (by rw [e299]) ?_
                              clear e299
                              have H300 : Hp w [] [.blk p3 [.int .u64 (m : Int), .int .u64 (g : Int)] 30, .blk p17 [.int .u64 (m : Int), .int .u64 (g : Int), .int .u64 (p1 : Int), .int .u64 (t1 : Int)] 46] w217 := H218.sub (List.Sublist.cons_cons _ (List.Sublist.cons_cons _ (List.Sublist.cons _ (List.Sublist.slnil))))
                              refine GL.fit (ts := [2, 5, 7, 8, 61, 62, 63]) (M' := [(2, pt p3 0), (5, pt p17 0), (7, .int .u64 (p1 : Int)), (8, .int .u64 (t1 : Int)), (61, .slice A n c0), (62, .int .i64 (n : Int)), (63, .int .i64 ((j + 1 : Nat) : Int))]) (by kernel_rfl) ?_
                              refine GL.eq (M' := [(2, pt p3 0), (5, pt p17 0), (7, .int .u64 (p1 : Int)), (8, .int .u64 (t1 : Int)), (61, .slice A n c0), (62, .int .i64 (n : Int)), (63, .int .i64 (((j + 1) : Nat) : Int))]) (by rfl) ?_
                              exact GL.again ⟨(j + 1), p1, t1⟩ [2, 5, 7, 8, 61, 62, 63] rfl (by kernel_rfl) (by show n - (j + 1) < n - j; omega) ⟨⟨by omega, by omega, by omega⟩, H300⟩
                            · skip
                              have hb298f := of_decide_eq_true hb298
                              refine GL.run (j := 39) 2 [2, 5, 7, 8, 61, 62, 63, 219] [(2, pt p3 0), (5, pt p17 0), (7, .int .u64 (p1 : Int)), (8, .int .u64 (t1 : Int)), (61, .slice A n c0), (62, .int .i64 (n : Int)), (63, .int .i64 (j : Int)), (219, .bool true)] (by kernel_rfl) rfl ?_
                              refine GL.k rfl hK221 (fun _ _ h => h) ?_
                              refine G.yes rfl ?_
                              refine G.seqK fun K301 hK302 => ?_
                              refine G.region ?_
                              refine GL.run (j := 1) 1 [4] [(4, .bool false)] (by kernel_rfl) rfl ?_
                              refine GL.k rfl hK302 (fun _ _ h => h) ?_
                              refine G.ret ?_
                              intro F_ hF_ hM_
                              refine hRet _ _ (bodyPost_1 rfl (RV.tmp rfl) ?_ F_ hF_ hM_)
                              exfalso
                              omega
                          · skip
                            have hb297f := of_decide_eq_true hb297
                            cases hb303 : (decide (0 < (p1 : Int)))
                            · skip
                              have hb303f := of_decide_eq_false hb303
                              refine GL.run (j := 39) 2 [2, 5, 7, 8, 61, 62, 63, 219] [(2, pt p3 0), (5, pt p17 0), (7, .int .u64 (p1 : Int)), (8, .int .u64 (t1 : Int)), (61, .slice A n c0), (62, .int .i64 (n : Int)), (63, .int .i64 (j : Int)), (219, .bool true)] (by kernel_rfl) rfl ?_
                              refine GL.k rfl hK221 (fun _ _ h => h) ?_
                              refine G.yes rfl ?_
                              refine G.seqK fun K304 hK305 => ?_
                              refine G.region ?_
                              refine GL.run (j := 1) 1 [4] [(4, .bool false)] (by kernel_rfl) rfl ?_
                              refine GL.k rfl hK305 (fun _ _ h => h) ?_
                              refine G.ret ?_
                              intro F_ hF_ hM_
                              refine hRet _ _ (bodyPost_1 rfl (RV.tmp rfl) ?_ F_ hF_ hM_)
                              exfalso
                              omega
                            · skip
                              have hb303f := of_decide_eq_true hb303
                              refine GL.run (j := 39) 2 [2, 5, 7, 8, 61, 62, 63, 219] [(2, pt p3 0), (5, pt p17 0), (7, .int .u64 (p1 : Int)), (8, .int .u64 (t1 : Int)), (61, .slice A n c0), (62, .int .i64 (n : Int)), (63, .int .i64 (j : Int)), (219, .bool false)] (by kernel_rfl) rfl ?_
                              refine GL.k rfl hK221 (fun _ _ h => h) ?_
                              refine G.no rfl ?_
                              refine G.skipK hK92 (fun _ _ h => h) ?_
                              refine G.region ?_
                              refine GL.run (j := 2) 2 [2, 5, 7, 8, 61, 62, 63] [(2, pt p3 0), (5, pt p17 0), (7, .int .u64 (p1 : Int)), (8, .int .u64 (t1 : Int)), (61, .slice A n c0), (62, .int .i64 (n : Int)), (63, .int .i64 (IntKind.i64.wrap ((j : Int) + 1)))] (by kernel_rfl) rfl ?_
                              have e306 : (IntKind.i64.wrap ((j : Int) + 1)) = ((j + 1 : Nat) : Int) := by rw [in_i64 (by omega)]; omega
                              refine GL.eq (M' := [(2, pt p3 0), (5, pt p17 0), (7, .int .u64 (p1 : Int)), (8, .int .u64 (t1 : Int)), (61, .slice A n c0), (62, .int .i64 (n : Int)), (63, .int .i64 ((j + 1 : Nat) : Int))]) (by rw [e306]) ?_
                              clear e306
                              have H307 : Hp w [] [.blk p3 [.int .u64 (m : Int), .int .u64 (g : Int)] 30, .blk p17 [.int .u64 (m : Int), .int .u64 (g : Int), .int .u64 (p1 : Int), .int .u64 (t1 : Int)] 46] w217 := H218.sub (List.Sublist.cons_cons _ (List.Sublist.cons_cons _ (List.Sublist.cons _ (List.Sublist.slnil))))
                              refine GL.fit (ts := [2, 5, 7, 8, 61, 62, 63]) (M' := [(2, pt p3 0), (5, pt p17 0), (7, .int .u64 (p1 : Int)), (8, .int .u64 (t1 : Int)), (61, .slice A n c0), (62, .int .i64 (n : Int)), (63, .int .i64 ((j + 1 : Nat) : Int))]) (by kernel_rfl) ?_
                              refine GL.eq (M' := [(2, pt p3 0), (5, pt p17 0), (7, .int .u64 (p1 : Int)), (8, .int .u64 (t1 : Int)), (61, .slice A n c0), (62, .int .i64 (n : Int)), (63, .int .i64 (((j + 1) : Nat) : Int))]) (by rfl) ?_
                              exact GL.again ⟨(j + 1), p1, t1⟩ [2, 5, 7, 8, 61, 62, 63] rfl (by kernel_rfl) (by show n - (j + 1) < n - j; omega) ⟨⟨by omega, by omega, by omega⟩, H307⟩
                        · skip
                          have hb294f : (((priceE g p1 t1 (h j)) : Nat) : Int) ≠ 0 := bne_iff_ne.1 hb294
                          refine GL.run (j := 24) 5 [2, 5, 7, 8, 17, 18, 19, 61, 62, 63, 204] [(2, pt p3 0), (5, pt p17 0), (7, .int .u64 (p1 : Int)), (8, .int .u64 (t1 : Int)), (17, .int .u64 (p1 : Int)), (18, .int .u64 (t1 : Int)), (19, .bool (decide (0 < p1))), (61, .slice A n c0), (62, .int .i64 (n : Int)), (63, .int .i64 (j : Int)), (204, .bool ((((priceV g p1 t1 (h j)) : Nat) : Int) != 0))] (by kernel_rfl) rfl ?_
                          cases hb308 : ((((priceV g p1 t1 (h j)) : Nat) : Int) != 0)
                          · skip
                            have hb308f : (((priceV g p1 t1 (h j)) : Nat) : Int) = 0 := bne_eq_false_iff_eq.1 hb308
                            refine GL.run (j := 29) 5 [2, 5, 7, 8, 18, 19, 61, 62, 63, 209] [(2, pt p3 0), (5, pt p17 0), (7, .int .u64 (p1 : Int)), (8, .int .u64 (t1 : Int)), (18, .int .u64 (t1 : Int)), (19, .bool (decide (0 < p1))), (61, .slice A n c0), (62, .int .i64 (n : Int)), (63, .int .i64 (j : Int)), (209, .bool ((p1 : Int) != (p1 : Int)))] (by kernel_rfl) rfl ?_
                            have hb309 : ((p1 : Int) != (p1 : Int)) = false := bne_self_eq_false _
                            rw [hb309]
                            refine GL.run (j := 34) 5 [2, 5, 7, 8, 19, 61, 62, 63, 214] [(2, pt p3 0), (5, pt p17 0), (7, .int .u64 (p1 : Int)), (8, .int .u64 (t1 : Int)), (19, .bool (decide (0 < p1))), (61, .slice A n c0), (62, .int .i64 (n : Int)), (63, .int .i64 (j : Int)), (214, .bool ((t1 : Int) != (t1 : Int)))] (by kernel_rfl) rfl ?_
                            have hb310 : ((t1 : Int) != (t1 : Int)) = false := bne_self_eq_false _
                            rw [hb310]
                            refine GL.run (j := 37) 3 [2, 5, 7, 8, 61, 62, 63, 214, 215, 217] [(2, pt p3 0), (5, pt p17 0), (7, .int .u64 (p1 : Int)), (8, .int .u64 (t1 : Int)), (61, .slice A n c0), (62, .int .i64 (n : Int)), (63, .int .i64 (j : Int)), (214, .bool false), (215, .bool (decide (0 < p1))), (217, .bool (decide (0 < (p1 : Int))))] (by kernel_rfl) rfl ?_
                            cases hb311 : (decide (0 < p1))
                            · skip
                              have hb311f := of_decide_eq_false hb311
                              cases hb312 : (decide (0 < (p1 : Int)))
                              · skip
                                have hb312f := of_decide_eq_false hb312
                                refine GL.run (j := 39) 2 [2, 5, 7, 8, 61, 62, 63, 219] [(2, pt p3 0), (5, pt p17 0), (7, .int .u64 (p1 : Int)), (8, .int .u64 (t1 : Int)), (61, .slice A n c0), (62, .int .i64 (n : Int)), (63, .int .i64 (j : Int)), (219, .bool false)] (by kernel_rfl) rfl ?_
                                refine GL.k rfl hK221 (fun _ _ h => h) ?_
                                refine G.no rfl ?_
                                refine G.skipK hK92 (fun _ _ h => h) ?_
                                refine G.region ?_
                                refine GL.run (j := 2) 2 [2, 5, 7, 8, 61, 62, 63] [(2, pt p3 0), (5, pt p17 0), (7, .int .u64 (p1 : Int)), (8, .int .u64 (t1 : Int)), (61, .slice A n c0), (62, .int .i64 (n : Int)), (63, .int .i64 (IntKind.i64.wrap ((j : Int) + 1)))] (by kernel_rfl) rfl ?_
                                have e313 : (IntKind.i64.wrap ((j : Int) + 1)) = ((j + 1 : Nat) : Int) := by rw [in_i64 (by omega)]; omega
                                refine GL.eq (M' := [(2, pt p3 0), (5, pt p17 0), (7, .int .u64 (p1 : Int)), (8, .int .u64 (t1 : Int)), (61, .slice A n c0), (62, .int .i64 (n : Int)), (63, .int .i64 ((j + 1 : Nat) : Int))]) (by rw [e313]) ?_
                                clear e313
                                have H314 : Hp w [] [.blk p3 [.int .u64 (m : Int), .int .u64 (g : Int)] 30, .blk p17 [.int .u64 (m : Int), .int .u64 (g : Int), .int .u64 (p1 : Int), .int .u64 (t1 : Int)] 46] w217 := H218.sub (List.Sublist.cons_cons _ (List.Sublist.cons_cons _ (List.Sublist.cons _ (List.Sublist.slnil))))
                                refine GL.fit (ts := [2, 5, 7, 8, 61, 62, 63]) (M' := [(2, pt p3 0), (5, pt p17 0), (7, .int .u64 (p1 : Int)), (8, .int .u64 (t1 : Int)), (61, .slice A n c0), (62, .int .i64 (n : Int)), (63, .int .i64 ((j + 1 : Nat) : Int))]) (by kernel_rfl) ?_
                                refine GL.eq (M' := [(2, pt p3 0), (5, pt p17 0), (7, .int .u64 (p1 : Int)), (8, .int .u64 (t1 : Int)), (61, .slice A n c0), (62, .int .i64 (n : Int)), (63, .int .i64 (((j + 1) : Nat) : Int))]) (by rfl) ?_
                                exact GL.again ⟨(j + 1), p1, t1⟩ [2, 5, 7, 8, 61, 62, 63] rfl (by kernel_rfl) (by show n - (j + 1) < n - j; omega) ⟨⟨by omega, by omega, by omega⟩, H314⟩
                              · skip
                                have hb312f := of_decide_eq_true hb312
                                refine GL.run (j := 39) 2 [2, 5, 7, 8, 61, 62, 63, 219] [(2, pt p3 0), (5, pt p17 0), (7, .int .u64 (p1 : Int)), (8, .int .u64 (t1 : Int)), (61, .slice A n c0), (62, .int .i64 (n : Int)), (63, .int .i64 (j : Int)), (219, .bool true)] (by kernel_rfl) rfl ?_
                                refine GL.k rfl hK221 (fun _ _ h => h) ?_
                                refine G.yes rfl ?_
                                refine G.seqK fun K315 hK316 => ?_
                                refine G.region ?_
                                refine GL.run (j := 1) 1 [4] [(4, .bool false)] (by kernel_rfl) rfl ?_
                                refine GL.k rfl hK316 (fun _ _ h => h) ?_
                                refine G.ret ?_
                                intro F_ hF_ hM_
                                refine hRet _ _ (bodyPost_1 rfl (RV.tmp rfl) ?_ F_ hF_ hM_)
                                exfalso
                                omega
                            · skip
                              have hb311f := of_decide_eq_true hb311
                              cases hb317 : (decide (0 < (p1 : Int)))
                              · skip
                                have hb317f := of_decide_eq_false hb317
                                refine GL.run (j := 39) 2 [2, 5, 7, 8, 61, 62, 63, 219] [(2, pt p3 0), (5, pt p17 0), (7, .int .u64 (p1 : Int)), (8, .int .u64 (t1 : Int)), (61, .slice A n c0), (62, .int .i64 (n : Int)), (63, .int .i64 (j : Int)), (219, .bool true)] (by kernel_rfl) rfl ?_
                                refine GL.k rfl hK221 (fun _ _ h => h) ?_
                                refine G.yes rfl ?_
                                refine G.seqK fun K318 hK319 => ?_
                                refine G.region ?_
                                refine GL.run (j := 1) 1 [4] [(4, .bool false)] (by kernel_rfl) rfl ?_
                                refine GL.k rfl hK319 (fun _ _ h => h) ?_
                                refine G.ret ?_
                                intro F_ hF_ hM_
                                refine hRet _ _ (bodyPost_1 rfl (RV.tmp rfl) ?_ F_ hF_ hM_)
                                exfalso
                                omega
                              · skip
                                have hb317f := of_decide_eq_true hb317
                                refine GL.run (j := 39) 2 [2, 5, 7, 8, 61, 62, 63, 219] [(2, pt p3 0), (5, pt p17 0), (7, .int .u64 (p1 : Int)), (8, .int .u64 (t1 : Int)), (61, .slice A n c0), (62, .int .i64 (n : Int)), (63, .int .i64 (j : Int)), (219, .bool false)] (by kernel_rfl) rfl ?_
                                refine GL.k rfl hK221 (fun _ _ h => h) ?_
                                refine G.no rfl ?_
                                refine G.skipK hK92 (fun _ _ h => h) ?_
                                refine G.region ?_
                                refine GL.run (j := 2) 2 [2, 5, 7, 8, 61, 62, 63] [(2, pt p3 0), (5, pt p17 0), (7, .int .u64 (p1 : Int)), (8, .int .u64 (t1 : Int)), (61, .slice A n c0), (62, .int .i64 (n : Int)), (63, .int .i64 (IntKind.i64.wrap ((j : Int) + 1)))] (by kernel_rfl) rfl ?_
                                have e320 : (IntKind.i64.wrap ((j : Int) + 1)) = ((j + 1 : Nat) : Int) := by rw [in_i64 (by omega)]; omega
                                refine GL.eq (M' := [(2, pt p3 0), (5, pt p17 0), (7, .int .u64 (p1 : Int)), (8, .int .u64 (t1 : Int)), (61, .slice A n c0), (62, .int .i64 (n : Int)), (63, .int .i64 ((j + 1 : Nat) : Int))]) (by rw [e320]) ?_
                                clear e320
                                have H321 : Hp w [] [.blk p3 [.int .u64 (m : Int), .int .u64 (g : Int)] 30, .blk p17 [.int .u64 (m : Int), .int .u64 (g : Int), .int .u64 (p1 : Int), .int .u64 (t1 : Int)] 46] w217 := H218.sub (List.Sublist.cons_cons _ (List.Sublist.cons_cons _ (List.Sublist.cons _ (List.Sublist.slnil))))
                                refine GL.fit (ts := [2, 5, 7, 8, 61, 62, 63]) (M' := [(2, pt p3 0), (5, pt p17 0), (7, .int .u64 (p1 : Int)), (8, .int .u64 (t1 : Int)), (61, .slice A n c0), (62, .int .i64 (n : Int)), (63, .int .i64 ((j + 1 : Nat) : Int))]) (by kernel_rfl) ?_
                                refine GL.eq (M' := [(2, pt p3 0), (5, pt p17 0), (7, .int .u64 (p1 : Int)), (8, .int .u64 (t1 : Int)), (61, .slice A n c0), (62, .int .i64 (n : Int)), (63, .int .i64 (((j + 1) : Nat) : Int))]) (by rfl) ?_
                                exact GL.again ⟨(j + 1), p1, t1⟩ [2, 5, 7, 8, 61, 62, 63] rfl (by kernel_rfl) (by show n - (j + 1) < n - j; omega) ⟨⟨by omega, by omega, by omega⟩, H321⟩
                          · skip
                            have hb308f : (((priceV g p1 t1 (h j)) : Nat) : Int) ≠ 0 := bne_iff_ne.1 hb308
                            refine GL.run (j := 39) 15 [2, 5, 7, 8, 61, 62, 63, 219] [(2, pt p3 0), (5, pt p17 0), (7, .int .u64 (p1 : Int)), (8, .int .u64 (t1 : Int)), (61, .slice A n c0), (62, .int .i64 (n : Int)), (63, .int .i64 (j : Int)), (219, .bool true)] (by kernel_rfl) rfl ?_
                            refine GL.k rfl hK221 (fun _ _ h => h) ?_
                            refine G.yes rfl ?_
                            refine G.seqK fun K322 hK323 => ?_
                            refine G.region ?_
                            refine GL.run (j := 1) 1 [4] [(4, .bool false)] (by kernel_rfl) rfl ?_
                            refine GL.k rfl hK323 (fun _ _ h => h) ?_
                            refine G.ret ?_
                            intro F_ hF_ hM_
                            refine hRet _ _ (bodyPost_1 rfl (RV.tmp rfl) ?_ F_ hF_ hM_)
                            exfalso
                            omega
      · skip
        have hb26f := of_decide_eq_true hb26
        refine G.yes rfl ?_
        refine G.seqK fun K324 hK325 => ?_
        refine G.region ?_
        refine GL.run (j := 7) 7 [4] [(4, .bool false)] (by kernel_rfl) rfl ?_
        refine GL.k rfl hK325 (fun _ _ h => h) ?_
        refine G.ret ?_
        intro F_ hF_ hM_
        refine hRet _ _ (bodyPost_1 rfl (RV.tmp rfl) ?_ F_ hF_ hM_)
        exfalso
        omega
    · skip
      have hb25f := of_decide_eq_true hb25
      refine GL.run (j := 8) 4 [1, 2, 5, 6, 52] [(1, .slice A n c0), (2, pt p3 0), (5, pt p17 0), (6, .int .i64 0), (52, .bool true)] (by kernel_rfl) rfl ?_
      refine GL.k rfl hK24 (fun _ _ h => h) ?_
      refine G.yes rfl ?_
      refine G.seqK fun K326 hK327 => ?_
      refine G.region ?_
      refine GL.run (j := 7) 7 [4] [(4, .bool false)] (by kernel_rfl) rfl ?_
      refine GL.k rfl hK327 (fun _ _ h => h) ?_
      refine G.ret ?_
      intro F_ hF_ hM_
      refine hRet _ _ (bodyPost_1 rfl (RV.tmp rfl) ?_ F_ hF_ hM_)
      exfalso
      omega
  · skip
    have hb14f := of_decide_eq_true hb14
    refine G.yes rfl ?_
    refine G.seqK fun K328 hK329 => ?_
    refine G.region ?_
    refine GL.call (j := 1) (lives_calls w11) (by kernel_rfl) rfl (fun e_ w330 hR => ?_)
    obtain ⟨rfl, H332⟩ := hR
    have H331 : Hp w [] [.blk p3 [.int .u64 (m : Int), .int .u64 (g : Int)] 30] w330 := H12.callNil H332
    refine ⟨_, rfl, [39], [(39, .bool true)], by kernel_rfl, ?_⟩
    refine GL.run (j := 2) 1 [4] [(4, .bool true)] (by kernel_rfl) rfl ?_
    refine GL.k rfl hK329 (fun _ _ h => h) ?_
    refine G.ret ?_
    intro F_ hF_ hM_
    refine hRet _ _ (bodyPost_1 rfl (RV.tmp rfl) ?_ F_ hF_ hM_)
    exact ⟨rfl, H331.sub (List.nil_sublist _)⟩
theorem OraclePlays_calls (m g : Nat) (hmK : m < K) (hgK : g < K) (A : Option Addr) (n c0 : Nat) (xs : List Value) (k f h : Nat → Nat) (w : World) (hr : RdS w A xs) (hx : xs.length = n * 3) (hn : n ≤ 9223372036854775807) (hk : ∀ i, k i < 2 ^ 64) (hf : ∀ i, f i < 2 ^ 64) (hh : ∀ i, h i < 2 ^ 64) (hel : ∀ i, i < n → (xs.drop (i * 3)).take 3 = [.int .u64 ((k i : Nat) : Int), .int .u64 ((f i : Nat) : Int), .int .u64 ((h i : Nat) : Int)]) : Calls Try.prog 4 #[.agg #[.int .u64 (m : Int), .int .u64 (g : Int)], .slice A n c0] w fun e w' => e = .returned (.bool true) ∧ Hp w [] [] w' := by
  by_cases hb : m ≤ 1000 ∧ g ≤ 1099511627776
  · exact OraclePlays_ok m g hmK hgK hb.1 hb.2 A n c0 xs k f h w hr hx hn hk hf hh hel
  · exact OraclePlays_bad m g hmK hgK hb A n c0 xs k f h w hr hx hn hk hf hh hel
end Go.Proofs.Ytljfofnpjmlobaa
