/- The contracts of package target: decoding small bits. -/
import Derived.Test.YtjfllmkihfidcaaTarget
import Derived.Test.YtjfllmkihfidcaaWideRi
namespace Go.Proofs.Ytjfllmkihfidcaa
open Go.RowKit
theorem Decode_small (b : Nat) (hb : b < 4294967296) (hX : ¬ 3 ≤ b / 16777216) (w : World) : Calls Try.prog 19 #[.int .u32 (b : Int)] w fun e w' => e = .returned (.tuple #[wv (decR b), .int .i64 ((decE b : Nat) : Int)]) ∧ Hp w [] [] w' := by
  have hMX : MX = 4611686018427387904 := rfl
  have hK0 : K = 18446744073709551616 := rfl
  have hK40 : K4 = 115792089237316195423570985008687907853269984665640564039457584007913129639936 := rfl
  have hbl := bl_le (k := 23) (show b % 8388608 < 2 ^ 23 from Nat.mod_lt _ (by decide))
  refine calls_G (args := [.int .u32 (b : Int)]) Try.func19 rfl Try.ntmps19 rfl ?_
  intro Q0 hRet hNor hPan
  have H := Hp.start w
  have H : Hp w [] [] w := H
  refine G.seqK fun K1 hK2 => ?_
  refine G.region ?_
  obtain ⟨p3, w4, r5, H6⟩ := H.alloc (P := Try.prog) 24 z4 (by kernel_rfl)
  have H6 : Hp w [] [.blk p3 z4 24] w4 := H6
  refine GL.sem (j := 1) (r5) [0, 2] [(0, .int .u32 (b : Int)), (2, pt p3 0)] (by kernel_rfl) (by kernel_rfl) rfl ?_
  refine GL.run (j := 2) 1 [0, 2] [(0, .int .u32 (b : Int)), (2, pt p3 0)] (by kernel_rfl) rfl ?_
  refine GL.k rfl hK2 (fun _ _ h => h) ?_
  refine G.seqK fun K7 hK8 => ?_
  refine G.region ?_
  refine GL.run (j := 6) 6 [0, 2, 9, 12] [(0, .int .u32 (b : Int)), (2, pt p3 0), (9, .int .i64 (IntKind.i64.wrap (Int.fdiv (b : Int) (2 ^ 24)))), (12, .int .u64 (IntKind.u64.wrap (Go.bits .and .u32 (b : Int) 8388607)))] (by kernel_rfl) rfl ?_
  have e9 : (Int.fdiv (b : Int) (2 ^ 24)) = ((b / 16777216 : Nat) : Int) := n_shr b 24
  have e10 : (IntKind.i64.wrap ((b / 16777216 : Nat) : Int)) = ((b / 16777216 : Nat) : Int) := in_i64 (by omega)
  have e11 : (Go.bits .and .u32 (b : Int) 8388607) = ((b % 8388608 : Nat) : Int) := u32_and23 hb
  have e12 : (IntKind.u64.wrap ((b % 8388608 : Nat) : Int)) = ((b % 8388608 : Nat) : Int) := in_u64 (by omega)
  refine GL.eq (M' := [(0, .int .u32 (b : Int)), (2, pt p3 0), (9, .int .i64 ((b / 16777216 : Nat) : Int)), (12, .int .u64 ((b % 8388608 : Nat) : Int))]) (by rw [e9, e10, e11, e12]) ?_
  clear e9 e10 e11 e12
  refine GL.call (j := 7) (Of_calls (b % 8388608) (show b % 8388608 < K from Nat.lt_trans (Nat.mod_lt _ (by decide : 0 < 8388608)) (by decide)) w4) (by kernel_rfl) rfl (fun e_ w13 hR => ?_)
  obtain ⟨he_, H15⟩ := hR
  obtain ⟨n16, hn17⟩ : ∃ v : Nat, v = b % 8388608 := ⟨_, rfl⟩
  rw [← hn17] at he_
  have n16l : n16 < K4 := by rw [hn17]; exact Nat.lt_trans (show b % 8388608 < K from Nat.lt_trans (Nat.mod_lt _ (by decide : 0 < 8388608)) (by decide)) (by decide)
  subst he_
  have H14 : Hp w [] [.blk p3 z4 24] w13 := H6.callNil H15
  refine ⟨_, rfl, [0, 2, 9, 13], [(0, .int .u32 (b : Int)), (2, pt p3 0), (9, .int .i64 ((b / 16777216 : Nat) : Int)), (13, wv n16)], by kernel_rfl, ?_⟩
  obtain ⟨p18, w19, r20, H21⟩ := H14.alloc (P := Try.prog) 24 z4 (by kernel_rfl)
  have H21 : Hp w [] [.blk p3 z4 24, .blk p18 z4 24] w19 := H21
  refine GL.sem (j := 8) (r20) [0, 2, 5, 9, 13] [(0, .int .u32 (b : Int)), (2, pt p3 0), (5, pt p18 0), (9, .int .i64 ((b / 16777216 : Nat) : Int)), (13, wv n16)] (by kernel_rfl) (by kernel_rfl) rfl ?_
  refine GL.run (j := 9) 1 [0, 2, 4, 5, 13] [(0, .int .u32 (b : Int)), (2, pt p3 0), (4, .int .i64 ((b / 16777216 : Nat) : Int)), (5, pt p18 0), (13, wv n16)] (by kernel_rfl) rfl ?_
  obtain ⟨w22, r23, H24⟩ := H21.stA (P := Try.prog) (o := 0) (vs := (wl n16)) (ty := 24) (m := 4) 1 rfl (by kernel_rfl) rfl (by first | decide | simp) (wl_one _)
  have H24 : Hp w [] [.blk p3 z4 24, .blk p18 (wl n16) 24] w22 := H24
  refine GL.semU (j := 10) r23 [0, 2, 4, 5] [(0, .int .u32 (b : Int)), (2, pt p3 0), (4, .int .i64 ((b / 16777216 : Nat) : Int)), (5, pt p18 0)] (by kernel_rfl) rfl rfl rfl ?_
  refine GL.k rfl hK8 (fun _ _ h => h) ?_
  refine G.seqK fun K25 hK26 => ?_
  refine G.seqK fun K27 hK28 => ?_
  refine G.region ?_
  refine GL.run (j := 4) 4 [2, 4, 5, 17] [(2, pt p3 0), (4, .int .i64 ((b / 16777216 : Nat) : Int)), (5, pt p18 0), (17, .bool ((Go.bits .and .u32 (b : Int) 8388608) != 0))] (by kernel_rfl) rfl ?_
  have e29 : (Go.bits .and .u32 (b : Int) 8388608) = ((b / 8388608 % 2 * 8388608 : Nat) : Int) := u32_bit23 hb
  refine GL.eq (M' := [(2, pt p3 0), (4, .int .i64 ((b / 16777216 : Nat) : Int)), (5, pt p18 0), (17, .bool (((b / 8388608 % 2 * 8388608 : Nat) : Int) != 0))]) (by rw [e29]) ?_
  clear e29
  cases hb30 : (((b / 8388608 % 2 * 8388608 : Nat) : Int) != 0)
  · skip
    have hb30f : ((b / 8388608 % 2 * 8388608 : Nat) : Int) = 0 := by simpa using hb30
    refine GL.run (j := 8) 4 [2, 4, 5, 21] [(2, pt p3 0), (4, .int .i64 ((b / 16777216 : Nat) : Int)), (5, pt p18 0), (21, .bool false)] (by kernel_rfl) rfl ?_
    refine GL.k rfl hK28 (fun _ _ h => h) ?_
    refine G.no rfl ?_
    refine G.skipK hK26 (fun _ _ h => h) ?_
    refine G.seqK fun K31 hK32 => ?_
    refine G.seqK fun K33 hK34 => ?_
    refine G.region ?_
    refine GL.run (j := 3) 3 [2, 4, 5, 25] [(2, pt p3 0), (4, .int .i64 ((b / 16777216 : Nat) : Int)), (5, pt p18 0), (25, .bool (decide (3 < ((b / 16777216 : Nat) : Int))))] (by kernel_rfl) rfl ?_
    cases hb35 : (decide (3 < ((b / 16777216 : Nat) : Int)))
    · skip
      have hb35f := of_decide_eq_false hb35
      refine GL.run (j := 11) 8 [2, 4, 5, 33] [(2, pt p3 0), (4, .int .i64 ((b / 16777216 : Nat) : Int)), (5, pt p18 0), (33, .bool false)] (by kernel_rfl) rfl ?_
      refine GL.k rfl hK34 (fun _ _ h => h) ?_
      refine G.no rfl ?_
      refine G.skipK hK32 (fun _ _ h => h) ?_
      refine G.seqK fun K36 hK37 => ?_
      refine G.region ?_
      refine GL.sem (j := 1) (H24.ldA (o := 0) (ty := 24) (m := 4) (sub := (wl n16)) 1 rfl (by kernel_rfl) rfl rfl) [2, 4, 35] [(2, pt p3 0), (4, .int .i64 ((b / 16777216 : Nat) : Int)), (35, wv n16)] (by kernel_rfl) (by kernel_rfl) rfl ?_
      refine GL.run (j := 4) 3 [2, 35, 38] [(2, pt p3 0), (35, wv n16), (38, .int .i64 (IntKind.i64.wrap (8 * (IntKind.i64.wrap (((b / 16777216 : Nat) : Int) - 3)))))] (by kernel_rfl) rfl ?_
      have e38 : (IntKind.i64.wrap (((b / 16777216 : Nat) : Int) - 3)) = (-((3 - b / 16777216 : Nat) : Int)) := by rw [in_i64 (by omega)]; omega
      have e39 : (IntKind.i64.wrap (8 * (-((3 - b / 16777216 : Nat) : Int)))) = (-((8 * (3 - b / 16777216) : Nat) : Int)) := by rw [in_i64 (by omega)]; omega
      refine GL.eq (M' := [(2, pt p3 0), (35, wv n16), (38, .int .i64 (-((8 * (3 - b / 16777216) : Nat) : Int)))]) (by rw [e38, e39]) ?_
      clear e38 e39
      refine GL.call (j := 5) (Left_neg n16 (8 * (3 - b / 16777216)) n16l (by omega) w22) (by kernel_rfl) rfl (fun e_ w40 hR => ?_)
      obtain ⟨rfl, H42⟩ := hR
      have H41 : Hp w [] [.blk p3 z4 24, .blk p18 (wl n16) 24] w40 := H24.callNil H42
      refine ⟨_, rfl, [2, 39], [(2, pt p3 0), (39, wv (n16 / 2 ^ (8 * (3 - b / 16777216))))], by kernel_rfl, ?_⟩
      obtain ⟨p43, w44, r45, H46⟩ := H41.alloc (P := Try.prog) 24 z4 (by kernel_rfl)
      have H46 : Hp w [] [.blk p3 z4 24, .blk p18 (wl n16) 24, .blk p43 z4 24] w44 := H46
      refine GL.sem (j := 6) (r45) [2, 6, 39] [(2, pt p3 0), (6, pt p43 0), (39, wv (n16 / 2 ^ (8 * (3 - b / 16777216))))] (by kernel_rfl) (by kernel_rfl) rfl ?_
      obtain ⟨w47, r48, H49⟩ := H46.stA (P := Try.prog) (o := 0) (vs := (wl (n16 / 2 ^ (8 * (3 - b / 16777216))))) (ty := 24) (m := 4) 2 rfl (by kernel_rfl) rfl (by first | decide | simp) (wl_one _)
      have H49 : Hp w [] [.blk p3 z4 24, .blk p18 (wl n16) 24, .blk p43 (wl (n16 / 2 ^ (8 * (3 - b / 16777216)))) 24] w47 := H49
      refine GL.semU (j := 7) r48 [2, 6] [(2, pt p3 0), (6, pt p43 0)] (by kernel_rfl) rfl rfl rfl ?_
      refine GL.k rfl hK37 (fun _ _ h => h) ?_
      refine G.seqK fun K50 hK51 => ?_
      refine G.seqK fun K52 hK53 => ?_
      refine G.region ?_
      refine GL.sem (j := 1) (H49.ldA (o := 0) (ty := 24) (m := 4) (sub := (wl (n16 / 2 ^ (8 * (3 - b / 16777216))))) 2 rfl (by kernel_rfl) rfl rfl) [2, 6, 40] [(2, pt p3 0), (6, pt p43 0), (40, wv (n16 / 2 ^ (8 * (3 - b / 16777216))))] (by kernel_rfl) (by kernel_rfl) rfl ?_
      refine GL.run (j := 2) 1 [2, 6, 40, 41] [(2, pt p3 0), (6, pt p43 0), (40, wv (n16 / 2 ^ (8 * (3 - b / 16777216)))), (41, .agg #[.int .u64 0, .int .u64 0, .int .u64 0, .int .u64 0])] (by kernel_rfl) rfl ?_
      refine GL.sem (j := 3) (run_arr_eql (P := Try.prog) (t := 24) (n := 4) (k := .u64) (x := (.tmp 40)) (y := (.tmp 41)) (by kernel_rfl) [(wd (n16 / 2 ^ (8 * (3 - b / 16777216))) 0 : Int), (wd (n16 / 2 ^ (8 * (3 - b / 16777216))) 1 : Int), (wd (n16 / 2 ^ (8 * (3 - b / 16777216))) 2 : Int), (wd (n16 / 2 ^ (8 * (3 - b / 16777216))) 3 : Int)] [0, 0, 0, 0] rfl rfl _) [2, 6, 42] [(2, pt p3 0), (6, pt p43 0), (42, .bool (decide (([(wd (n16 / 2 ^ (8 * (3 - b / 16777216))) 0 : Int), (wd (n16 / 2 ^ (8 * (3 - b / 16777216))) 1 : Int), (wd (n16 / 2 ^ (8 * (3 - b / 16777216))) 2 : Int), (wd (n16 / 2 ^ (8 * (3 - b / 16777216))) 3 : Int)] : List Int) = [0, 0, 0, 0])))] (by kernel_rfl) (by kernel_rfl) rfl ?_
      refine GL.k rfl hK53 (fun _ _ h => h) ?_
      cases hb54 : (decide (([(wd (n16 / 2 ^ (8 * (3 - b / 16777216))) 0 : Int), (wd (n16 / 2 ^ (8 * (3 - b / 16777216))) 1 : Int), (wd (n16 / 2 ^ (8 * (3 - b / 16777216))) 2 : Int), (wd (n16 / 2 ^ (8 * (3 - b / 16777216))) 3 : Int)] : List Int) = [0, 0, 0, 0]))
      · skip
        have hb54f := of_decide_eq_false hb54
        have hz : (n16 / 2 ^ (8 * (3 - b / 16777216))) ≠ 0 := fun h => hb54f ((wv_eq (y := 0) (Nat.lt_of_le_of_lt (Nat.div_le_self _ _) n16l) (by decide)).2 h)
        have hT : decT b = (n16 / 2 ^ (8 * (3 - b / 16777216))) := by rw [decT, if_neg (by omega), ← hn17]
        refine G.no rfl ?_
        refine G.skipK hK51 (fun _ _ h => h) ?_
        refine G.seqK fun K55 hK56 => ?_
        refine G.region ?_
        refine GL.sem (j := 1) (H49.ldA (o := 0) (ty := 24) (m := 4) (sub := (wl (n16 / 2 ^ (8 * (3 - b / 16777216))))) 2 rfl (by kernel_rfl) rfl rfl) [2, 44] [(2, pt p3 0), (44, wv (n16 / 2 ^ (8 * (3 - b / 16777216))))] (by kernel_rfl) (by kernel_rfl) rfl ?_
        obtain ⟨w57, r58, H59⟩ := H49.stA (P := Try.prog) (o := 0) (vs := (wl (n16 / 2 ^ (8 * (3 - b / 16777216))))) (ty := 24) (m := 4) 0 rfl (by kernel_rfl) rfl (by first | decide | simp) (wl_one _)
        have H59 : Hp w [] [.blk p3 (wl (n16 / 2 ^ (8 * (3 - b / 16777216)))) 24, .blk p18 (wl n16) 24, .blk p43 (wl (n16 / 2 ^ (8 * (3 - b / 16777216)))) 24] w57 := H59
        refine GL.semU (j := 2) r58 [2] [(2, pt p3 0)] (by kernel_rfl) rfl rfl rfl ?_
        refine GL.run (j := 3) 1 [2, 3] [(2, pt p3 0), (3, .int .i64 0)] (by kernel_rfl) rfl ?_
        refine GL.k rfl hK56 (fun _ _ h => h) ?_
        refine G.ret ?_
        intro F_ hF_ hM_
        refine hRet _ _ (bodyPost_2 rfl (RV.cell rfl (H59.ldA (o := 0) (ty := 24) (m := 4) (sub := (wl (n16 / 2 ^ (8 * (3 - b / 16777216))))) 0 rfl (by kernel_rfl) rfl rfl)) (RV.tmp rfl) ?_ F_ hF_ hM_)
        have cE : decE b = 0 := by rw [decE, if_neg (by omega), if_neg (by omega), if_neg (by rw [hT]; exact hz)]
        have cR : decR b = (n16 / 2 ^ (8 * (3 - b / 16777216))) := by rw [decR, if_pos cE, hT]
        rw [cE, cR]
        exact ⟨rfl, H59.sub (List.nil_sublist _)⟩
      · skip
        have hb54f := of_decide_eq_true hb54
        have hz : (n16 / 2 ^ (8 * (3 - b / 16777216))) = 0 := (wv_eq (y := 0) (Nat.lt_of_le_of_lt (Nat.div_le_self _ _) n16l) (by decide)).1 hb54f
        have hT : decT b = (n16 / 2 ^ (8 * (3 - b / 16777216))) := by rw [decT, if_neg (by omega), ← hn17]
        refine G.yes rfl ?_
        refine G.seqK fun K60 hK61 => ?_
        refine G.region ?_
        refine GL.sem (j := 1) (H49.ldA (o := 0) (ty := 24) (m := 4) (sub := (wl (n16 / 2 ^ (8 * (3 - b / 16777216))))) 2 rfl (by kernel_rfl) rfl rfl) [2, 43] [(2, pt p3 0), (43, wv (n16 / 2 ^ (8 * (3 - b / 16777216))))] (by kernel_rfl) (by kernel_rfl) rfl ?_
        obtain ⟨w62, r63, H64⟩ := H49.stA (P := Try.prog) (o := 0) (vs := (wl (n16 / 2 ^ (8 * (3 - b / 16777216))))) (ty := 24) (m := 4) 0 rfl (by kernel_rfl) rfl (by first | decide | simp) (wl_one _)
        have H64 : Hp w [] [.blk p3 (wl (n16 / 2 ^ (8 * (3 - b / 16777216)))) 24, .blk p18 (wl n16) 24, .blk p43 (wl (n16 / 2 ^ (8 * (3 - b / 16777216)))) 24] w62 := H64
        refine GL.semU (j := 2) r63 [2] [(2, pt p3 0)] (by kernel_rfl) rfl rfl rfl ?_
        refine GL.run (j := 3) 1 [2, 3] [(2, pt p3 0), (3, .int .i64 6)] (by kernel_rfl) rfl ?_
        refine GL.k rfl hK61 (fun _ _ h => h) ?_
        refine G.ret ?_
        intro F_ hF_ hM_
        refine hRet _ _ (bodyPost_2 rfl (RV.cell rfl (H64.ldA (o := 0) (ty := 24) (m := 4) (sub := (wl (n16 / 2 ^ (8 * (3 - b / 16777216))))) 0 rfl (by kernel_rfl) rfl rfl)) (RV.tmp rfl) ?_ F_ hF_ hM_)
        have cE : decE b = 6 := by
          rw [decE, if_neg (by omega), if_neg (by omega), if_pos (by rw [hT]; exact hz)]
        have cR : decR b = 0 := by rw [decR, if_neg (by omega)]
        rw [show (n16 / 2 ^ (8 * (3 - b / 16777216))) = 0 from hz]
        rw [cE, cR]
        exact ⟨rfl, H64.sub (List.nil_sublist _)⟩
    · skip
      have hb35f := of_decide_eq_true hb35
      refine GL.sem (j := 4) (H24.ldA (o := 0) (ty := 24) (m := 4) (sub := (wl n16)) 1 rfl (by kernel_rfl) rfl rfl) [2, 4, 5, 25, 26] [(2, pt p3 0), (4, .int .i64 ((b / 16777216 : Nat) : Int)), (5, pt p18 0), (25, .bool true), (26, wv n16)] (by kernel_rfl) (by kernel_rfl) rfl ?_
      have hbm : bl n16 ≤ 23 := by rw [hn17]; exact hbl
      refine GL.call (j := 5) (Bits_calls n16 n16l w22) (by kernel_rfl) rfl (fun e_ w65 hR => ?_)
      obtain ⟨he_, H67⟩ := hR
      subst he_
      have H66 : Hp w [] [.blk p3 z4 24, .blk p18 (wl n16) 24] w65 := H24.callNil H67
      refine ⟨_, rfl, [2, 4, 5, 25, 27], [(2, pt p3 0), (4, .int .i64 ((b / 16777216 : Nat) : Int)), (5, pt p18 0), (25, .bool true), (27, .int .i64 ((bl n16 : Nat) : Int))], by kernel_rfl, ?_⟩
      refine GL.run (j := 11) 6 [2, 4, 5, 33] [(2, pt p3 0), (4, .int .i64 ((b / 16777216 : Nat) : Int)), (5, pt p18 0), (33, .bool (decide (256 < (IntKind.i64.wrap (((bl n16 : Nat) : Int) + (IntKind.i64.wrap (8 * (IntKind.i64.wrap (((b / 16777216 : Nat) : Int) - 3)))))))))] (by kernel_rfl) rfl ?_
      have e68 : (IntKind.i64.wrap (((b / 16777216 : Nat) : Int) - 3)) = (-((3 - b / 16777216 : Nat) : Int)) := by rw [in_i64 (by omega)]; omega
      have e69 : (IntKind.i64.wrap (8 * (-((3 - b / 16777216 : Nat) : Int)))) = (-((8 * (3 - b / 16777216) : Nat) : Int)) := by rw [in_i64 (by omega)]; omega
      have e70 : (IntKind.i64.wrap (((bl n16 : Nat) : Int) + (-((8 * (3 - b / 16777216) : Nat) : Int)))) = (((bl n16 : Nat) : Int) + (-((8 * (3 - b / 16777216) : Nat) : Int))) := in_i64 (by omega)
      refine GL.eq (M' := [(2, pt p3 0), (4, .int .i64 ((b / 16777216 : Nat) : Int)), (5, pt p18 0), (33, .bool (decide (256 < (((bl n16 : Nat) : Int) + (-((8 * (3 - b / 16777216) : Nat) : Int))))))]) (by rw [e68, e69, e70]) ?_
      clear e68 e69 e70
      refine GL.k rfl hK34 (fun _ _ h => h) ?_
      cases hb71 : (decide (256 < (((bl n16 : Nat) : Int) + (-((8 * (3 - b / 16777216) : Nat) : Int)))))
      · skip
        have hb71f := of_decide_eq_false hb71
        have hbn : bl n16 = bl (b % 8388608) := by rw [hn17]
        refine G.no rfl ?_
        refine G.skipK hK32 (fun _ _ h => h) ?_
        refine G.seqK fun K72 hK73 => ?_
        refine G.region ?_
        refine GL.sem (j := 1) (H66.ldA (o := 0) (ty := 24) (m := 4) (sub := (wl n16)) 1 rfl (by kernel_rfl) rfl rfl) [2, 4, 35] [(2, pt p3 0), (4, .int .i64 ((b / 16777216 : Nat) : Int)), (35, wv n16)] (by kernel_rfl) (by kernel_rfl) rfl ?_
        refine GL.run (j := 4) 3 [2, 35, 38] [(2, pt p3 0), (35, wv n16), (38, .int .i64 (IntKind.i64.wrap (8 * (IntKind.i64.wrap (((b / 16777216 : Nat) : Int) - 3)))))] (by kernel_rfl) rfl ?_
        have e74 : (IntKind.i64.wrap (((b / 16777216 : Nat) : Int) - 3)) = (-((3 - b / 16777216 : Nat) : Int)) := by rw [in_i64 (by omega)]; omega
        have e75 : (IntKind.i64.wrap (8 * (-((3 - b / 16777216 : Nat) : Int)))) = (-((8 * (3 - b / 16777216) : Nat) : Int)) := by rw [in_i64 (by omega)]; omega
        refine GL.eq (M' := [(2, pt p3 0), (35, wv n16), (38, .int .i64 (-((8 * (3 - b / 16777216) : Nat) : Int)))]) (by rw [e74, e75]) ?_
        clear e74 e75
        refine GL.call (j := 5) (Left_neg n16 (8 * (3 - b / 16777216)) n16l (by omega) w65) (by kernel_rfl) rfl (fun e_ w76 hR => ?_)
        obtain ⟨rfl, H78⟩ := hR
        have H77 : Hp w [] [.blk p3 z4 24, .blk p18 (wl n16) 24] w76 := H66.callNil H78
        refine ⟨_, rfl, [2, 39], [(2, pt p3 0), (39, wv (n16 / 2 ^ (8 * (3 - b / 16777216))))], by kernel_rfl, ?_⟩
        obtain ⟨p79, w80, r81, H82⟩ := H77.alloc (P := Try.prog) 24 z4 (by kernel_rfl)
        have H82 : Hp w [] [.blk p3 z4 24, .blk p18 (wl n16) 24, .blk p79 z4 24] w80 := H82
        refine GL.sem (j := 6) (r81) [2, 6, 39] [(2, pt p3 0), (6, pt p79 0), (39, wv (n16 / 2 ^ (8 * (3 - b / 16777216))))] (by kernel_rfl) (by kernel_rfl) rfl ?_
        obtain ⟨w83, r84, H85⟩ := H82.stA (P := Try.prog) (o := 0) (vs := (wl (n16 / 2 ^ (8 * (3 - b / 16777216))))) (ty := 24) (m := 4) 2 rfl (by kernel_rfl) rfl (by first | decide | simp) (wl_one _)
        have H85 : Hp w [] [.blk p3 z4 24, .blk p18 (wl n16) 24, .blk p79 (wl (n16 / 2 ^ (8 * (3 - b / 16777216)))) 24] w83 := H85
        refine GL.semU (j := 7) r84 [2, 6] [(2, pt p3 0), (6, pt p79 0)] (by kernel_rfl) rfl rfl rfl ?_
        refine GL.k rfl hK73 (fun _ _ h => h) ?_
        refine G.seqK fun K86 hK87 => ?_
        refine G.seqK fun K88 hK89 => ?_
        refine G.region ?_
        refine GL.sem (j := 1) (H85.ldA (o := 0) (ty := 24) (m := 4) (sub := (wl (n16 / 2 ^ (8 * (3 - b / 16777216))))) 2 rfl (by kernel_rfl) rfl rfl) [2, 6, 40] [(2, pt p3 0), (6, pt p79 0), (40, wv (n16 / 2 ^ (8 * (3 - b / 16777216))))] (by kernel_rfl) (by kernel_rfl) rfl ?_
        refine GL.run (j := 2) 1 [2, 6, 40, 41] [(2, pt p3 0), (6, pt p79 0), (40, wv (n16 / 2 ^ (8 * (3 - b / 16777216)))), (41, .agg #[.int .u64 0, .int .u64 0, .int .u64 0, .int .u64 0])] (by kernel_rfl) rfl ?_
        refine GL.sem (j := 3) (run_arr_eql (P := Try.prog) (t := 24) (n := 4) (k := .u64) (x := (.tmp 40)) (y := (.tmp 41)) (by kernel_rfl) [(wd (n16 / 2 ^ (8 * (3 - b / 16777216))) 0 : Int), (wd (n16 / 2 ^ (8 * (3 - b / 16777216))) 1 : Int), (wd (n16 / 2 ^ (8 * (3 - b / 16777216))) 2 : Int), (wd (n16 / 2 ^ (8 * (3 - b / 16777216))) 3 : Int)] [0, 0, 0, 0] rfl rfl _) [2, 6, 42] [(2, pt p3 0), (6, pt p79 0), (42, .bool (decide (([(wd (n16 / 2 ^ (8 * (3 - b / 16777216))) 0 : Int), (wd (n16 / 2 ^ (8 * (3 - b / 16777216))) 1 : Int), (wd (n16 / 2 ^ (8 * (3 - b / 16777216))) 2 : Int), (wd (n16 / 2 ^ (8 * (3 - b / 16777216))) 3 : Int)] : List Int) = [0, 0, 0, 0])))] (by kernel_rfl) (by kernel_rfl) rfl ?_
        refine GL.k rfl hK89 (fun _ _ h => h) ?_
        cases hb90 : (decide (([(wd (n16 / 2 ^ (8 * (3 - b / 16777216))) 0 : Int), (wd (n16 / 2 ^ (8 * (3 - b / 16777216))) 1 : Int), (wd (n16 / 2 ^ (8 * (3 - b / 16777216))) 2 : Int), (wd (n16 / 2 ^ (8 * (3 - b / 16777216))) 3 : Int)] : List Int) = [0, 0, 0, 0]))
        · skip
          have hb90f := of_decide_eq_false hb90
          have hz : (n16 / 2 ^ (8 * (3 - b / 16777216))) ≠ 0 := fun h => hb90f ((wv_eq (y := 0) (Nat.lt_of_le_of_lt (Nat.div_le_self _ _) n16l) (by decide)).2 h)
          have hT : decT b = (n16 / 2 ^ (8 * (3 - b / 16777216))) := by rw [decT, if_neg (by omega), ← hn17]
          refine G.no rfl ?_
          refine G.skipK hK87 (fun _ _ h => h) ?_
          refine G.seqK fun K91 hK92 => ?_
          refine G.region ?_
          refine GL.sem (j := 1) (H85.ldA (o := 0) (ty := 24) (m := 4) (sub := (wl (n16 / 2 ^ (8 * (3 - b / 16777216))))) 2 rfl (by kernel_rfl) rfl rfl) [2, 44] [(2, pt p3 0), (44, wv (n16 / 2 ^ (8 * (3 - b / 16777216))))] (by kernel_rfl) (by kernel_rfl) rfl ?_
          obtain ⟨w93, r94, H95⟩ := H85.stA (P := Try.prog) (o := 0) (vs := (wl (n16 / 2 ^ (8 * (3 - b / 16777216))))) (ty := 24) (m := 4) 0 rfl (by kernel_rfl) rfl (by first | decide | simp) (wl_one _)
          have H95 : Hp w [] [.blk p3 (wl (n16 / 2 ^ (8 * (3 - b / 16777216)))) 24, .blk p18 (wl n16) 24, .blk p79 (wl (n16 / 2 ^ (8 * (3 - b / 16777216)))) 24] w93 := H95
          refine GL.semU (j := 2) r94 [2] [(2, pt p3 0)] (by kernel_rfl) rfl rfl rfl ?_
          refine GL.run (j := 3) 1 [2, 3] [(2, pt p3 0), (3, .int .i64 0)] (by kernel_rfl) rfl ?_
          refine GL.k rfl hK92 (fun _ _ h => h) ?_
          refine G.ret ?_
          intro F_ hF_ hM_
          refine hRet _ _ (bodyPost_2 rfl (RV.cell rfl (H95.ldA (o := 0) (ty := 24) (m := 4) (sub := (wl (n16 / 2 ^ (8 * (3 - b / 16777216))))) 0 rfl (by kernel_rfl) rfl rfl)) (RV.tmp rfl) ?_ F_ hF_ hM_)
          have cE : decE b = 0 := by rw [decE, if_neg (by omega), if_neg (by omega), if_neg (by rw [hT]; exact hz)]
          have cR : decR b = (n16 / 2 ^ (8 * (3 - b / 16777216))) := by rw [decR, if_pos cE, hT]
          rw [cE, cR]
          exact ⟨rfl, H95.sub (List.nil_sublist _)⟩
        · skip
          have hb90f := of_decide_eq_true hb90
          have hz : (n16 / 2 ^ (8 * (3 - b / 16777216))) = 0 := (wv_eq (y := 0) (Nat.lt_of_le_of_lt (Nat.div_le_self _ _) n16l) (by decide)).1 hb90f
          have hT : decT b = (n16 / 2 ^ (8 * (3 - b / 16777216))) := by rw [decT, if_neg (by omega), ← hn17]
          refine G.yes rfl ?_
          refine G.seqK fun K96 hK97 => ?_
          refine G.region ?_
          refine GL.sem (j := 1) (H85.ldA (o := 0) (ty := 24) (m := 4) (sub := (wl (n16 / 2 ^ (8 * (3 - b / 16777216))))) 2 rfl (by kernel_rfl) rfl rfl) [2, 43] [(2, pt p3 0), (43, wv (n16 / 2 ^ (8 * (3 - b / 16777216))))] (by kernel_rfl) (by kernel_rfl) rfl ?_
          obtain ⟨w98, r99, H100⟩ := H85.stA (P := Try.prog) (o := 0) (vs := (wl (n16 / 2 ^ (8 * (3 - b / 16777216))))) (ty := 24) (m := 4) 0 rfl (by kernel_rfl) rfl (by first | decide | simp) (wl_one _)
          have H100 : Hp w [] [.blk p3 (wl (n16 / 2 ^ (8 * (3 - b / 16777216)))) 24, .blk p18 (wl n16) 24, .blk p79 (wl (n16 / 2 ^ (8 * (3 - b / 16777216)))) 24] w98 := H100
          refine GL.semU (j := 2) r99 [2] [(2, pt p3 0)] (by kernel_rfl) rfl rfl rfl ?_
          refine GL.run (j := 3) 1 [2, 3] [(2, pt p3 0), (3, .int .i64 6)] (by kernel_rfl) rfl ?_
          refine GL.k rfl hK97 (fun _ _ h => h) ?_
          refine G.ret ?_
          intro F_ hF_ hM_
          refine hRet _ _ (bodyPost_2 rfl (RV.cell rfl (H100.ldA (o := 0) (ty := 24) (m := 4) (sub := (wl (n16 / 2 ^ (8 * (3 - b / 16777216))))) 0 rfl (by kernel_rfl) rfl rfl)) (RV.tmp rfl) ?_ F_ hF_ hM_)
          have cE : decE b = 6 := by
            rw [decE, if_neg (by omega), if_neg (by omega), if_pos (by rw [hT]; exact hz)]
          have cR : decR b = 0 := by rw [decR, if_neg (by omega)]
          rw [show (n16 / 2 ^ (8 * (3 - b / 16777216))) = 0 from hz]
          rw [cE, cR]
          exact ⟨rfl, H100.sub (List.nil_sublist _)⟩
      · skip
        have hb71f := of_decide_eq_true hb71
        have hbn : bl n16 = bl (b % 8388608) := by rw [hn17]
        refine G.yes rfl ?_
        refine G.seqK fun K101 hK102 => ?_
        refine G.region ?_
        refine GL.run (j := 1) 1 [2, 34] [(2, pt p3 0), (34, .agg #[.int .u64 0, .int .u64 0, .int .u64 0, .int .u64 0])] (by kernel_rfl) rfl ?_
        obtain ⟨w103, r104, H105⟩ := H66.stA (P := Try.prog) (o := 0) (vs := z4) (ty := 24) (m := 4) 0 rfl (by kernel_rfl) rfl (by first | decide | simp) (z4_one)
        have H105 : Hp w [] [.blk p3 z4 24, .blk p18 (wl n16) 24] w103 := H105
        refine GL.semU (j := 2) r104 [2] [(2, pt p3 0)] (by kernel_rfl) rfl rfl rfl ?_
        refine GL.run (j := 3) 1 [2, 3] [(2, pt p3 0), (3, .int .i64 6)] (by kernel_rfl) rfl ?_
        refine GL.k rfl hK102 (fun _ _ h => h) ?_
        refine G.ret ?_
        intro F_ hF_ hM_
        refine hRet _ _ (bodyPost_2 rfl (RV.cell rfl (H105.ldA (o := 0) (ty := 24) (m := 4) (sub := z4) 0 rfl (by kernel_rfl) rfl rfl)) (RV.tmp rfl) ?_ F_ hF_ hM_)
        have cE : decE b = 6 := by
          rw [decE, if_neg (by omega), if_pos (by omega)]
        have cR : decR b = 0 := by rw [decR, if_neg (by omega)]
        rw [cE, cR]
        exact ⟨rfl, H105.sub (List.nil_sublist _)⟩
  · skip
    have hb30f : ((b / 8388608 % 2 * 8388608 : Nat) : Int) ≠ 0 := by simpa using hb30
    refine GL.sem (j := 5) (H24.ldA (o := 0) (ty := 24) (m := 4) (sub := (wl n16)) 1 rfl (by kernel_rfl) rfl rfl) [2, 4, 5, 17, 18] [(2, pt p3 0), (4, .int .i64 ((b / 16777216 : Nat) : Int)), (5, pt p18 0), (17, .bool true), (18, wv n16)] (by kernel_rfl) (by kernel_rfl) rfl ?_
    refine GL.run (j := 6) 1 [2, 4, 5, 17, 18, 19] [(2, pt p3 0), (4, .int .i64 ((b / 16777216 : Nat) : Int)), (5, pt p18 0), (17, .bool true), (18, wv n16), (19, .agg #[.int .u64 0, .int .u64 0, .int .u64 0, .int .u64 0])] (by kernel_rfl) rfl ?_
    refine GL.sem (j := 7) (run_arr_neq (P := Try.prog) (t := 24) (n := 4) (k := .u64) (x := (.tmp 18)) (y := (.tmp 19)) (by kernel_rfl) [(wd n16 0 : Int), (wd n16 1 : Int), (wd n16 2 : Int), (wd n16 3 : Int)] [0, 0, 0, 0] rfl rfl _) [2, 4, 5, 17, 20] [(2, pt p3 0), (4, .int .i64 ((b / 16777216 : Nat) : Int)), (5, pt p18 0), (17, .bool true), (20, .bool (!(decide (([(wd n16 0 : Int), (wd n16 1 : Int), (wd n16 2 : Int), (wd n16 3 : Int)] : List Int) = [0, 0, 0, 0]))))] (by kernel_rfl) (by kernel_rfl) rfl ?_
    refine GL.run (j := 8) 1 [2, 4, 5, 21] [(2, pt p3 0), (4, .int .i64 ((b / 16777216 : Nat) : Int)), (5, pt p18 0), (21, .bool (!(decide (([(wd n16 0 : Int), (wd n16 1 : Int), (wd n16 2 : Int), (wd n16 3 : Int)] : List Int) = [0, 0, 0, 0]))))] (by kernel_rfl) rfl ?_
    refine GL.k rfl hK28 (fun _ _ h => h) ?_
    cases hb106 : (decide (([(wd n16 0 : Int), (wd n16 1 : Int), (wd n16 2 : Int), (wd n16 3 : Int)] : List Int) = [0, 0, 0, 0]))
    · skip
      have hb106f := of_decide_eq_false hb106
      have hm0 : n16 ≠ 0 := fun h => hb106f ((wv_eq (y := 0) n16l (by decide)).2 h)
      rw [hn17] at hm0
      refine G.yes rfl ?_
      refine G.seqK fun K107 hK108 => ?_
      refine G.region ?_
      refine GL.run (j := 1) 1 [2, 22] [(2, pt p3 0), (22, .agg #[.int .u64 0, .int .u64 0, .int .u64 0, .int .u64 0])] (by kernel_rfl) rfl ?_
      obtain ⟨w109, r110, H111⟩ := H24.stA (P := Try.prog) (o := 0) (vs := z4) (ty := 24) (m := 4) 0 rfl (by kernel_rfl) rfl (by first | decide | simp) (z4_one)
      have H111 : Hp w [] [.blk p3 z4 24, .blk p18 (wl n16) 24] w109 := H111
      refine GL.semU (j := 2) r110 [2] [(2, pt p3 0)] (by kernel_rfl) rfl rfl rfl ?_
      refine GL.run (j := 3) 1 [2, 3] [(2, pt p3 0), (3, .int .i64 6)] (by kernel_rfl) rfl ?_
      refine GL.k rfl hK108 (fun _ _ h => h) ?_
      refine G.ret ?_
      intro F_ hF_ hM_
      refine hRet _ _ (bodyPost_2 rfl (RV.cell rfl (H111.ldA (o := 0) (ty := 24) (m := 4) (sub := z4) 0 rfl (by kernel_rfl) rfl rfl)) (RV.tmp rfl) ?_ F_ hF_ hM_)
      have cE : decE b = 6 := by
        rw [decE, if_pos (by omega)]
      have cR : decR b = 0 := by rw [decR, if_neg (by omega)]
      rw [cE, cR]
      exact ⟨rfl, H111.sub (List.nil_sublist _)⟩
    · skip
      have hb106f := of_decide_eq_true hb106
      have hm0 : n16 = 0 := (wv_eq (y := 0) n16l (by decide)).1 hb106f
      rw [hn17] at hm0
      refine G.no rfl ?_
      refine G.skipK hK26 (fun _ _ h => h) ?_
      refine G.seqK fun K112 hK113 => ?_
      refine G.seqK fun K114 hK115 => ?_
      refine G.region ?_
      refine GL.run (j := 3) 3 [2, 4, 5, 25] [(2, pt p3 0), (4, .int .i64 ((b / 16777216 : Nat) : Int)), (5, pt p18 0), (25, .bool (decide (3 < ((b / 16777216 : Nat) : Int))))] (by kernel_rfl) rfl ?_
      cases hb116 : (decide (3 < ((b / 16777216 : Nat) : Int)))
      · skip
        have hb116f := of_decide_eq_false hb116
        refine GL.run (j := 11) 8 [2, 4, 5, 33] [(2, pt p3 0), (4, .int .i64 ((b / 16777216 : Nat) : Int)), (5, pt p18 0), (33, .bool false)] (by kernel_rfl) rfl ?_
        refine GL.k rfl hK115 (fun _ _ h => h) ?_
        refine G.no rfl ?_
        refine G.skipK hK113 (fun _ _ h => h) ?_
        refine G.seqK fun K117 hK118 => ?_
        refine G.region ?_
        refine GL.sem (j := 1) (H24.ldA (o := 0) (ty := 24) (m := 4) (sub := (wl n16)) 1 rfl (by kernel_rfl) rfl rfl) [2, 4, 35] [(2, pt p3 0), (4, .int .i64 ((b / 16777216 : Nat) : Int)), (35, wv n16)] (by kernel_rfl) (by kernel_rfl) rfl ?_
        refine GL.run (j := 4) 3 [2, 35, 38] [(2, pt p3 0), (35, wv n16), (38, .int .i64 (IntKind.i64.wrap (8 * (IntKind.i64.wrap (((b / 16777216 : Nat) : Int) - 3)))))] (by kernel_rfl) rfl ?_
        have e119 : (IntKind.i64.wrap (((b / 16777216 : Nat) : Int) - 3)) = (-((3 - b / 16777216 : Nat) : Int)) := by rw [in_i64 (by omega)]; omega
        have e120 : (IntKind.i64.wrap (8 * (-((3 - b / 16777216 : Nat) : Int)))) = (-((8 * (3 - b / 16777216) : Nat) : Int)) := by rw [in_i64 (by omega)]; omega
        refine GL.eq (M' := [(2, pt p3 0), (35, wv n16), (38, .int .i64 (-((8 * (3 - b / 16777216) : Nat) : Int)))]) (by rw [e119, e120]) ?_
        clear e119 e120
        refine GL.call (j := 5) (Left_neg n16 (8 * (3 - b / 16777216)) n16l (by omega) w22) (by kernel_rfl) rfl (fun e_ w121 hR => ?_)
        obtain ⟨rfl, H123⟩ := hR
        have H122 : Hp w [] [.blk p3 z4 24, .blk p18 (wl n16) 24] w121 := H24.callNil H123
        refine ⟨_, rfl, [2, 39], [(2, pt p3 0), (39, wv (n16 / 2 ^ (8 * (3 - b / 16777216))))], by kernel_rfl, ?_⟩
        obtain ⟨p124, w125, r126, H127⟩ := H122.alloc (P := Try.prog) 24 z4 (by kernel_rfl)
        have H127 : Hp w [] [.blk p3 z4 24, .blk p18 (wl n16) 24, .blk p124 z4 24] w125 := H127
        refine GL.sem (j := 6) (r126) [2, 6, 39] [(2, pt p3 0), (6, pt p124 0), (39, wv (n16 / 2 ^ (8 * (3 - b / 16777216))))] (by kernel_rfl) (by kernel_rfl) rfl ?_
        obtain ⟨w128, r129, H130⟩ := H127.stA (P := Try.prog) (o := 0) (vs := (wl (n16 / 2 ^ (8 * (3 - b / 16777216))))) (ty := 24) (m := 4) 2 rfl (by kernel_rfl) rfl (by first | decide | simp) (wl_one _)
        have H130 : Hp w [] [.blk p3 z4 24, .blk p18 (wl n16) 24, .blk p124 (wl (n16 / 2 ^ (8 * (3 - b / 16777216)))) 24] w128 := H130
        refine GL.semU (j := 7) r129 [2, 6] [(2, pt p3 0), (6, pt p124 0)] (by kernel_rfl) rfl rfl rfl ?_
        refine GL.k rfl hK118 (fun _ _ h => h) ?_
        refine G.seqK fun K131 hK132 => ?_
        refine G.seqK fun K133 hK134 => ?_
        refine G.region ?_
        refine GL.sem (j := 1) (H130.ldA (o := 0) (ty := 24) (m := 4) (sub := (wl (n16 / 2 ^ (8 * (3 - b / 16777216))))) 2 rfl (by kernel_rfl) rfl rfl) [2, 6, 40] [(2, pt p3 0), (6, pt p124 0), (40, wv (n16 / 2 ^ (8 * (3 - b / 16777216))))] (by kernel_rfl) (by kernel_rfl) rfl ?_
        refine GL.run (j := 2) 1 [2, 6, 40, 41] [(2, pt p3 0), (6, pt p124 0), (40, wv (n16 / 2 ^ (8 * (3 - b / 16777216)))), (41, .agg #[.int .u64 0, .int .u64 0, .int .u64 0, .int .u64 0])] (by kernel_rfl) rfl ?_
        refine GL.sem (j := 3) (run_arr_eql (P := Try.prog) (t := 24) (n := 4) (k := .u64) (x := (.tmp 40)) (y := (.tmp 41)) (by kernel_rfl) [(wd (n16 / 2 ^ (8 * (3 - b / 16777216))) 0 : Int), (wd (n16 / 2 ^ (8 * (3 - b / 16777216))) 1 : Int), (wd (n16 / 2 ^ (8 * (3 - b / 16777216))) 2 : Int), (wd (n16 / 2 ^ (8 * (3 - b / 16777216))) 3 : Int)] [0, 0, 0, 0] rfl rfl _) [2, 6, 42] [(2, pt p3 0), (6, pt p124 0), (42, .bool (decide (([(wd (n16 / 2 ^ (8 * (3 - b / 16777216))) 0 : Int), (wd (n16 / 2 ^ (8 * (3 - b / 16777216))) 1 : Int), (wd (n16 / 2 ^ (8 * (3 - b / 16777216))) 2 : Int), (wd (n16 / 2 ^ (8 * (3 - b / 16777216))) 3 : Int)] : List Int) = [0, 0, 0, 0])))] (by kernel_rfl) (by kernel_rfl) rfl ?_
        refine GL.k rfl hK134 (fun _ _ h => h) ?_
        cases hb135 : (decide (([(wd (n16 / 2 ^ (8 * (3 - b / 16777216))) 0 : Int), (wd (n16 / 2 ^ (8 * (3 - b / 16777216))) 1 : Int), (wd (n16 / 2 ^ (8 * (3 - b / 16777216))) 2 : Int), (wd (n16 / 2 ^ (8 * (3 - b / 16777216))) 3 : Int)] : List Int) = [0, 0, 0, 0]))
        · skip
          have hb135f := of_decide_eq_false hb135
          have hz : (n16 / 2 ^ (8 * (3 - b / 16777216))) ≠ 0 := fun h => hb135f ((wv_eq (y := 0) (Nat.lt_of_le_of_lt (Nat.div_le_self _ _) n16l) (by decide)).2 h)
          have hT : decT b = (n16 / 2 ^ (8 * (3 - b / 16777216))) := by rw [decT, if_neg (by omega), ← hn17]
          refine G.no rfl ?_
          refine G.skipK hK132 (fun _ _ h => h) ?_
          refine G.seqK fun K136 hK137 => ?_
          refine G.region ?_
          refine GL.sem (j := 1) (H130.ldA (o := 0) (ty := 24) (m := 4) (sub := (wl (n16 / 2 ^ (8 * (3 - b / 16777216))))) 2 rfl (by kernel_rfl) rfl rfl) [2, 44] [(2, pt p3 0), (44, wv (n16 / 2 ^ (8 * (3 - b / 16777216))))] (by kernel_rfl) (by kernel_rfl) rfl ?_
          obtain ⟨w138, r139, H140⟩ := H130.stA (P := Try.prog) (o := 0) (vs := (wl (n16 / 2 ^ (8 * (3 - b / 16777216))))) (ty := 24) (m := 4) 0 rfl (by kernel_rfl) rfl (by first | decide | simp) (wl_one _)
          have H140 : Hp w [] [.blk p3 (wl (n16 / 2 ^ (8 * (3 - b / 16777216)))) 24, .blk p18 (wl n16) 24, .blk p124 (wl (n16 / 2 ^ (8 * (3 - b / 16777216)))) 24] w138 := H140
          refine GL.semU (j := 2) r139 [2] [(2, pt p3 0)] (by kernel_rfl) rfl rfl rfl ?_
          refine GL.run (j := 3) 1 [2, 3] [(2, pt p3 0), (3, .int .i64 0)] (by kernel_rfl) rfl ?_
          refine GL.k rfl hK137 (fun _ _ h => h) ?_
          refine G.ret ?_
          intro F_ hF_ hM_
          refine hRet _ _ (bodyPost_2 rfl (RV.cell rfl (H140.ldA (o := 0) (ty := 24) (m := 4) (sub := (wl (n16 / 2 ^ (8 * (3 - b / 16777216))))) 0 rfl (by kernel_rfl) rfl rfl)) (RV.tmp rfl) ?_ F_ hF_ hM_)
          have cE : decE b = 0 := by rw [decE, if_neg (by omega), if_neg (by omega), if_neg (by rw [hT]; exact hz)]
          have cR : decR b = (n16 / 2 ^ (8 * (3 - b / 16777216))) := by rw [decR, if_pos cE, hT]
          rw [cE, cR]
          exact ⟨rfl, H140.sub (List.nil_sublist _)⟩
        · skip
          have hb135f := of_decide_eq_true hb135
          have hz : (n16 / 2 ^ (8 * (3 - b / 16777216))) = 0 := (wv_eq (y := 0) (Nat.lt_of_le_of_lt (Nat.div_le_self _ _) n16l) (by decide)).1 hb135f
          have hT : decT b = (n16 / 2 ^ (8 * (3 - b / 16777216))) := by rw [decT, if_neg (by omega), ← hn17]
          refine G.yes rfl ?_
          refine G.seqK fun K141 hK142 => ?_
          refine G.region ?_
          refine GL.sem (j := 1) (H130.ldA (o := 0) (ty := 24) (m := 4) (sub := (wl (n16 / 2 ^ (8 * (3 - b / 16777216))))) 2 rfl (by kernel_rfl) rfl rfl) [2, 43] [(2, pt p3 0), (43, wv (n16 / 2 ^ (8 * (3 - b / 16777216))))] (by kernel_rfl) (by kernel_rfl) rfl ?_
          obtain ⟨w143, r144, H145⟩ := H130.stA (P := Try.prog) (o := 0) (vs := (wl (n16 / 2 ^ (8 * (3 - b / 16777216))))) (ty := 24) (m := 4) 0 rfl (by kernel_rfl) rfl (by first | decide | simp) (wl_one _)
          have H145 : Hp w [] [.blk p3 (wl (n16 / 2 ^ (8 * (3 - b / 16777216)))) 24, .blk p18 (wl n16) 24, .blk p124 (wl (n16 / 2 ^ (8 * (3 - b / 16777216)))) 24] w143 := H145
          refine GL.semU (j := 2) r144 [2] [(2, pt p3 0)] (by kernel_rfl) rfl rfl rfl ?_
          refine GL.run (j := 3) 1 [2, 3] [(2, pt p3 0), (3, .int .i64 6)] (by kernel_rfl) rfl ?_
          refine GL.k rfl hK142 (fun _ _ h => h) ?_
          refine G.ret ?_
          intro F_ hF_ hM_
          refine hRet _ _ (bodyPost_2 rfl (RV.cell rfl (H145.ldA (o := 0) (ty := 24) (m := 4) (sub := (wl (n16 / 2 ^ (8 * (3 - b / 16777216))))) 0 rfl (by kernel_rfl) rfl rfl)) (RV.tmp rfl) ?_ F_ hF_ hM_)
          have cE : decE b = 6 := by
            rw [decE, if_neg (by omega), if_neg (by omega), if_pos (by rw [hT]; exact hz)]
          have cR : decR b = 0 := by rw [decR, if_neg (by omega)]
          rw [show (n16 / 2 ^ (8 * (3 - b / 16777216))) = 0 from hz]
          rw [cE, cR]
          exact ⟨rfl, H145.sub (List.nil_sublist _)⟩
      · skip
        have hb116f := of_decide_eq_true hb116
        refine GL.sem (j := 4) (H24.ldA (o := 0) (ty := 24) (m := 4) (sub := (wl n16)) 1 rfl (by kernel_rfl) rfl rfl) [2, 4, 5, 25, 26] [(2, pt p3 0), (4, .int .i64 ((b / 16777216 : Nat) : Int)), (5, pt p18 0), (25, .bool true), (26, wv n16)] (by kernel_rfl) (by kernel_rfl) rfl ?_
        have hbm : bl n16 ≤ 23 := by rw [hn17]; exact hbl
        refine GL.call (j := 5) (Bits_calls n16 n16l w22) (by kernel_rfl) rfl (fun e_ w146 hR => ?_)
        obtain ⟨he_, H148⟩ := hR
        subst he_
        have H147 : Hp w [] [.blk p3 z4 24, .blk p18 (wl n16) 24] w146 := H24.callNil H148
        refine ⟨_, rfl, [2, 4, 5, 25, 27], [(2, pt p3 0), (4, .int .i64 ((b / 16777216 : Nat) : Int)), (5, pt p18 0), (25, .bool true), (27, .int .i64 ((bl n16 : Nat) : Int))], by kernel_rfl, ?_⟩
        refine GL.run (j := 11) 6 [2, 4, 5, 33] [(2, pt p3 0), (4, .int .i64 ((b / 16777216 : Nat) : Int)), (5, pt p18 0), (33, .bool (decide (256 < (IntKind.i64.wrap (((bl n16 : Nat) : Int) + (IntKind.i64.wrap (8 * (IntKind.i64.wrap (((b / 16777216 : Nat) : Int) - 3)))))))))] (by kernel_rfl) rfl ?_
        have e149 : (IntKind.i64.wrap (((b / 16777216 : Nat) : Int) - 3)) = (-((3 - b / 16777216 : Nat) : Int)) := by rw [in_i64 (by omega)]; omega
        have e150 : (IntKind.i64.wrap (8 * (-((3 - b / 16777216 : Nat) : Int)))) = (-((8 * (3 - b / 16777216) : Nat) : Int)) := by rw [in_i64 (by omega)]; omega
        have e151 : (IntKind.i64.wrap (((bl n16 : Nat) : Int) + (-((8 * (3 - b / 16777216) : Nat) : Int)))) = (((bl n16 : Nat) : Int) + (-((8 * (3 - b / 16777216) : Nat) : Int))) := in_i64 (by omega)
        refine GL.eq (M' := [(2, pt p3 0), (4, .int .i64 ((b / 16777216 : Nat) : Int)), (5, pt p18 0), (33, .bool (decide (256 < (((bl n16 : Nat) : Int) + (-((8 * (3 - b / 16777216) : Nat) : Int))))))]) (by rw [e149, e150, e151]) ?_
        clear e149 e150 e151
        refine GL.k rfl hK115 (fun _ _ h => h) ?_
        cases hb152 : (decide (256 < (((bl n16 : Nat) : Int) + (-((8 * (3 - b / 16777216) : Nat) : Int)))))
        · skip
          have hb152f := of_decide_eq_false hb152
          have hbn : bl n16 = bl (b % 8388608) := by rw [hn17]
          refine G.no rfl ?_
          refine G.skipK hK113 (fun _ _ h => h) ?_
          refine G.seqK fun K153 hK154 => ?_
          refine G.region ?_
          refine GL.sem (j := 1) (H147.ldA (o := 0) (ty := 24) (m := 4) (sub := (wl n16)) 1 rfl (by kernel_rfl) rfl rfl) [2, 4, 35] [(2, pt p3 0), (4, .int .i64 ((b / 16777216 : Nat) : Int)), (35, wv n16)] (by kernel_rfl) (by kernel_rfl) rfl ?_
          refine GL.run (j := 4) 3 [2, 35, 38] [(2, pt p3 0), (35, wv n16), (38, .int .i64 (IntKind.i64.wrap (8 * (IntKind.i64.wrap (((b / 16777216 : Nat) : Int) - 3)))))] (by kernel_rfl) rfl ?_
          have e155 : (IntKind.i64.wrap (((b / 16777216 : Nat) : Int) - 3)) = (-((3 - b / 16777216 : Nat) : Int)) := by rw [in_i64 (by omega)]; omega
          have e156 : (IntKind.i64.wrap (8 * (-((3 - b / 16777216 : Nat) : Int)))) = (-((8 * (3 - b / 16777216) : Nat) : Int)) := by rw [in_i64 (by omega)]; omega
          refine GL.eq (M' := [(2, pt p3 0), (35, wv n16), (38, .int .i64 (-((8 * (3 - b / 16777216) : Nat) : Int)))]) (by rw [e155, e156]) ?_
          clear e155 e156
          refine GL.call (j := 5) (Left_neg n16 (8 * (3 - b / 16777216)) n16l (by omega) w146) (by kernel_rfl) rfl (fun e_ w157 hR => ?_)
          obtain ⟨rfl, H159⟩ := hR
          have H158 : Hp w [] [.blk p3 z4 24, .blk p18 (wl n16) 24] w157 := H147.callNil H159
          refine ⟨_, rfl, [2, 39], [(2, pt p3 0), (39, wv (n16 / 2 ^ (8 * (3 - b / 16777216))))], by kernel_rfl, ?_⟩
          obtain ⟨p160, w161, r162, H163⟩ := H158.alloc (P := Try.prog) 24 z4 (by kernel_rfl)
          have H163 : Hp w [] [.blk p3 z4 24, .blk p18 (wl n16) 24, .blk p160 z4 24] w161 := H163
          refine GL.sem (j := 6) (r162) [2, 6, 39] [(2, pt p3 0), (6, pt p160 0), (39, wv (n16 / 2 ^ (8 * (3 - b / 16777216))))] (by kernel_rfl) (by kernel_rfl) rfl ?_
          obtain ⟨w164, r165, H166⟩ := H163.stA (P := Try.prog) (o := 0) (vs := (wl (n16 / 2 ^ (8 * (3 - b / 16777216))))) (ty := 24) (m := 4) 2 rfl (by kernel_rfl) rfl (by first | decide | simp) (wl_one _)
          have H166 : Hp w [] [.blk p3 z4 24, .blk p18 (wl n16) 24, .blk p160 (wl (n16 / 2 ^ (8 * (3 - b / 16777216)))) 24] w164 := H166
          refine GL.semU (j := 7) r165 [2, 6] [(2, pt p3 0), (6, pt p160 0)] (by kernel_rfl) rfl rfl rfl ?_
          refine GL.k rfl hK154 (fun _ _ h => h) ?_
          refine G.seqK fun K167 hK168 => ?_
          refine G.seqK fun K169 hK170 => ?_
          refine G.region ?_
          refine GL.sem (j := 1) (H166.ldA (o := 0) (ty := 24) (m := 4) (sub := (wl (n16 / 2 ^ (8 * (3 - b / 16777216))))) 2 rfl (by kernel_rfl) rfl rfl) [2, 6, 40] [(2, pt p3 0), (6, pt p160 0), (40, wv (n16 / 2 ^ (8 * (3 - b / 16777216))))] (by kernel_rfl) (by kernel_rfl) rfl ?_
          refine GL.run (j := 2) 1 [2, 6, 40, 41] [(2, pt p3 0), (6, pt p160 0), (40, wv (n16 / 2 ^ (8 * (3 - b / 16777216)))), (41, .agg #[.int .u64 0, .int .u64 0, .int .u64 0, .int .u64 0])] (by kernel_rfl) rfl ?_
          refine GL.sem (j := 3) (run_arr_eql (P := Try.prog) (t := 24) (n := 4) (k := .u64) (x := (.tmp 40)) (y := (.tmp 41)) (by kernel_rfl) [(wd (n16 / 2 ^ (8 * (3 - b / 16777216))) 0 : Int), (wd (n16 / 2 ^ (8 * (3 - b / 16777216))) 1 : Int), (wd (n16 / 2 ^ (8 * (3 - b / 16777216))) 2 : Int), (wd (n16 / 2 ^ (8 * (3 - b / 16777216))) 3 : Int)] [0, 0, 0, 0] rfl rfl _) [2, 6, 42] [(2, pt p3 0), (6, pt p160 0), (42, .bool (decide (([(wd (n16 / 2 ^ (8 * (3 - b / 16777216))) 0 : Int), (wd (n16 / 2 ^ (8 * (3 - b / 16777216))) 1 : Int), (wd (n16 / 2 ^ (8 * (3 - b / 16777216))) 2 : Int), (wd (n16 / 2 ^ (8 * (3 - b / 16777216))) 3 : Int)] : List Int) = [0, 0, 0, 0])))] (by kernel_rfl) (by kernel_rfl) rfl ?_
          refine GL.k rfl hK170 (fun _ _ h => h) ?_
          cases hb171 : (decide (([(wd (n16 / 2 ^ (8 * (3 - b / 16777216))) 0 : Int), (wd (n16 / 2 ^ (8 * (3 - b / 16777216))) 1 : Int), (wd (n16 / 2 ^ (8 * (3 - b / 16777216))) 2 : Int), (wd (n16 / 2 ^ (8 * (3 - b / 16777216))) 3 : Int)] : List Int) = [0, 0, 0, 0]))
          · skip
            have hb171f := of_decide_eq_false hb171
            have hz : (n16 / 2 ^ (8 * (3 - b / 16777216))) ≠ 0 := fun h => hb171f ((wv_eq (y := 0) (Nat.lt_of_le_of_lt (Nat.div_le_self _ _) n16l) (by decide)).2 h)
            have hT : decT b = (n16 / 2 ^ (8 * (3 - b / 16777216))) := by rw [decT, if_neg (by omega), ← hn17]
            refine G.no rfl ?_
            refine G.skipK hK168 (fun _ _ h => h) ?_
            refine G.seqK fun K172 hK173 => ?_
            refine G.region ?_
            refine GL.sem (j := 1) (H166.ldA (o := 0) (ty := 24) (m := 4) (sub := (wl (n16 / 2 ^ (8 * (3 - b / 16777216))))) 2 rfl (by kernel_rfl) rfl rfl) [2, 44] [(2, pt p3 0), (44, wv (n16 / 2 ^ (8 * (3 - b / 16777216))))] (by kernel_rfl) (by kernel_rfl) rfl ?_
            obtain ⟨w174, r175, H176⟩ := H166.stA (P := Try.prog) (o := 0) (vs := (wl (n16 / 2 ^ (8 * (3 - b / 16777216))))) (ty := 24) (m := 4) 0 rfl (by kernel_rfl) rfl (by first | decide | simp) (wl_one _)
            have H176 : Hp w [] [.blk p3 (wl (n16 / 2 ^ (8 * (3 - b / 16777216)))) 24, .blk p18 (wl n16) 24, .blk p160 (wl (n16 / 2 ^ (8 * (3 - b / 16777216)))) 24] w174 := H176
            refine GL.semU (j := 2) r175 [2] [(2, pt p3 0)] (by kernel_rfl) rfl rfl rfl ?_
            refine GL.run (j := 3) 1 [2, 3] [(2, pt p3 0), (3, .int .i64 0)] (by kernel_rfl) rfl ?_
            refine GL.k rfl hK173 (fun _ _ h => h) ?_
            refine G.ret ?_
            intro F_ hF_ hM_
            refine hRet _ _ (bodyPost_2 rfl (RV.cell rfl (H176.ldA (o := 0) (ty := 24) (m := 4) (sub := (wl (n16 / 2 ^ (8 * (3 - b / 16777216))))) 0 rfl (by kernel_rfl) rfl rfl)) (RV.tmp rfl) ?_ F_ hF_ hM_)
            have cE : decE b = 0 := by rw [decE, if_neg (by omega), if_neg (by omega), if_neg (by rw [hT]; exact hz)]
            have cR : decR b = (n16 / 2 ^ (8 * (3 - b / 16777216))) := by rw [decR, if_pos cE, hT]
            rw [cE, cR]
            exact ⟨rfl, H176.sub (List.nil_sublist _)⟩
          · skip
            have hb171f := of_decide_eq_true hb171
            have hz : (n16 / 2 ^ (8 * (3 - b / 16777216))) = 0 := (wv_eq (y := 0) (Nat.lt_of_le_of_lt (Nat.div_le_self _ _) n16l) (by decide)).1 hb171f
            have hT : decT b = (n16 / 2 ^ (8 * (3 - b / 16777216))) := by rw [decT, if_neg (by omega), ← hn17]
            refine G.yes rfl ?_
            refine G.seqK fun K177 hK178 => ?_
            refine G.region ?_
            refine GL.sem (j := 1) (H166.ldA (o := 0) (ty := 24) (m := 4) (sub := (wl (n16 / 2 ^ (8 * (3 - b / 16777216))))) 2 rfl (by kernel_rfl) rfl rfl) [2, 43] [(2, pt p3 0), (43, wv (n16 / 2 ^ (8 * (3 - b / 16777216))))] (by kernel_rfl) (by kernel_rfl) rfl ?_
            obtain ⟨w179, r180, H181⟩ := H166.stA (P := Try.prog) (o := 0) (vs := (wl (n16 / 2 ^ (8 * (3 - b / 16777216))))) (ty := 24) (m := 4) 0 rfl (by kernel_rfl) rfl (by first | decide | simp) (wl_one _)
            have H181 : Hp w [] [.blk p3 (wl (n16 / 2 ^ (8 * (3 - b / 16777216)))) 24, .blk p18 (wl n16) 24, .blk p160 (wl (n16 / 2 ^ (8 * (3 - b / 16777216)))) 24] w179 := H181
            refine GL.semU (j := 2) r180 [2] [(2, pt p3 0)] (by kernel_rfl) rfl rfl rfl ?_
            refine GL.run (j := 3) 1 [2, 3] [(2, pt p3 0), (3, .int .i64 6)] (by kernel_rfl) rfl ?_
            refine GL.k rfl hK178 (fun _ _ h => h) ?_
            refine G.ret ?_
            intro F_ hF_ hM_
            refine hRet _ _ (bodyPost_2 rfl (RV.cell rfl (H181.ldA (o := 0) (ty := 24) (m := 4) (sub := (wl (n16 / 2 ^ (8 * (3 - b / 16777216))))) 0 rfl (by kernel_rfl) rfl rfl)) (RV.tmp rfl) ?_ F_ hF_ hM_)
            have cE : decE b = 6 := by
              rw [decE, if_neg (by omega), if_neg (by omega), if_pos (by rw [hT]; exact hz)]
            have cR : decR b = 0 := by rw [decR, if_neg (by omega)]
            rw [show (n16 / 2 ^ (8 * (3 - b / 16777216))) = 0 from hz]
            rw [cE, cR]
            exact ⟨rfl, H181.sub (List.nil_sublist _)⟩
        · skip
          have hb152f := of_decide_eq_true hb152
          have hbn : bl n16 = bl (b % 8388608) := by rw [hn17]
          refine G.yes rfl ?_
          refine G.seqK fun K182 hK183 => ?_
          refine G.region ?_
          refine GL.run (j := 1) 1 [2, 34] [(2, pt p3 0), (34, .agg #[.int .u64 0, .int .u64 0, .int .u64 0, .int .u64 0])] (by kernel_rfl) rfl ?_
          obtain ⟨w184, r185, H186⟩ := H147.stA (P := Try.prog) (o := 0) (vs := z4) (ty := 24) (m := 4) 0 rfl (by kernel_rfl) rfl (by first | decide | simp) (z4_one)
          have H186 : Hp w [] [.blk p3 z4 24, .blk p18 (wl n16) 24] w184 := H186
          refine GL.semU (j := 2) r185 [2] [(2, pt p3 0)] (by kernel_rfl) rfl rfl rfl ?_
          refine GL.run (j := 3) 1 [2, 3] [(2, pt p3 0), (3, .int .i64 6)] (by kernel_rfl) rfl ?_
          refine GL.k rfl hK183 (fun _ _ h => h) ?_
          refine G.ret ?_
          intro F_ hF_ hM_
          refine hRet _ _ (bodyPost_2 rfl (RV.cell rfl (H186.ldA (o := 0) (ty := 24) (m := 4) (sub := z4) 0 rfl (by kernel_rfl) rfl rfl)) (RV.tmp rfl) ?_ F_ hF_ hM_)
          have cE : decE b = 6 := by
            rw [decE, if_neg (by omega), if_pos (by omega)]
          have cR : decR b = 0 := by rw [decR, if_neg (by omega)]
          rw [cE, cR]
          exact ⟨rfl, H186.sub (List.nil_sublist _)⟩
theorem Decode_calls (b : Nat) (hb : b < 4294967296) (w : World) : Calls Try.prog 19 #[.int .u32 (b : Int)] w fun e w' => e = .returned (.tuple #[wv (decR b), .int .i64 ((decE b : Nat) : Int)]) ∧ Hp w [] [] w' := by
  by_cases h : 3 ≤ b / 16777216
  · exact Decode_big b hb h w
  · exact Decode_small b hb h w
end Go.Proofs.Ytjfllmkihfidcaa
