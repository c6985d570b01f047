/- The contracts of package pool. -/
import Derived.Test.YtjfmibmmebdliaaMoney
import Derived.Test.YtjfmibmmebdliaaNc
namespace Go.Proofs.Ytjfmibmmebdliaa
open Go.RowKit
/-- What burning a of i tokens brings, of c; why nothing; how many are left. -/
def shE (c i a : Nat) : Nat := if a = 0 ∨ MX < a then 1 else if i < a then 16 else partE c a i false
def shV (c i a : Nat) : Nat := if a = 0 ∨ MX < a then 0 else if i < a then 0 else partV c a i false
def shI (c i a : Nat) : Nat := if shE c i a = 0 then i - a else i
theorem part_le {c i a : Nat} (h : a ≤ i) : partV c a i false ≤ c := by
  rcases part_any c a i false with ⟨_, h2⟩ | h2
  · rw [h2, partQ_down]
    by_cases hi : i = 0
    · subst hi
      simp
    · exact Nat.le_trans (Nat.div_le_div_right (Nat.mul_le_mul_left c h)) (Nat.le_of_eq (Nat.mul_div_cancel _ (by omega)))
  · omega
theorem shV_le (c i a : Nat) : shV c i a ≤ c := by
  unfold shV
  split
  · omega
  · split
    · omega
    · exact part_le (by omega)
theorem sh_none {c i a : Nat} (h : shE c i a ≠ 0) : shV c i a = 0 ∧ shI c i a = i := by
  refine ⟨?_, by rw [shI, if_neg h]⟩
  unfold shE at h
  unfold shV
  split
  · rfl
  · rename_i h1
    rw [if_neg h1] at h
    split
    · rfl
    · rename_i h2
      rw [if_neg h2] at h
      rw [partV, if_neg h]
theorem sh_some {c i a : Nat} (h : shE c i a = 0) : shI c i a = i - a ∧ a ≤ i ∧ 0 < a := by
  refine ⟨by rw [shI, if_pos h], ?_⟩
  unfold shE at h
  split at h
  · cases h
  · split at h
    · cases h
    · omega
theorem Share_calls (c i a : Nat) (hc : c < K) (hi : i < K) (ha : a < K) (w : World) : Calls Try.prog 8 #[.agg #[.int .u64 (c : Int), .int .u64 (i : Int)], .int .u64 (a : Int)] w fun e w' => e = .returned (.tuple #[.int .u64 ((shV c i a : Nat) : Int), .int .i64 ((shE c i a : Nat) : Int)]) ∧ Hp w [] [] w' := by
  have hMX : MX = 4611686018427387904 := rfl
  have hK0 : K = 18446744073709551616 := rfl
  have hK40 : K4 = 115792089237316195423570985008687907853269984665640564039457584007913129639936 := rfl
  refine calls_G (args := [.agg #[.int .u64 (c : Int), .int .u64 (i : Int)], .int .u64 (a : Int)]) Try.func8 rfl Try.ntmps8 rfl ?_
  intro Q0 hRet hNor hPan
  have H := Hp.start w
  have H : Hp w [] [] w := H
  refine G.seqK fun K1 hK2 => ?_
  refine G.region ?_
  obtain ⟨p3, w4, r5, H6⟩ := H.box (P := Try.prog) 26 [.int .u64 (c : Int), .int .u64 (i : Int)] (.agg #[.int .u64 (c : Int), .int .u64 (i : Int)]) rfl
  have H6 : Hp w [] [.blk p3 [.int .u64 (c : Int), .int .u64 (i : Int)] 26] w4 := H6
  refine GL.sem (j := 1) (r5) [1, 2] [(1, .int .u64 (a : Int)), (2, pt p3 0)] (by kernel_rfl) (by kernel_rfl) rfl ?_
  refine GL.run (j := 3) 2 [1, 2] [(1, .int .u64 (a : Int)), (2, pt p3 0)] (by kernel_rfl) rfl ?_
  refine GL.k rfl hK2 (fun _ _ h => h) ?_
  refine G.seqK fun K7 hK8 => ?_
  refine G.block ?_
  refine G.seqK fun K9 hK10 => ?_
  refine G.region ?_
  refine GL.run (j := 3) 3 [1, 2, 9] [(1, .int .u64 (a : Int)), (2, pt p3 0), (9, .bool ((a : Int) == 0))] (by kernel_rfl) rfl ?_
  cases hb11 : ((a : Int) == 0)
  · skip
    have hb11f := ne_of_beq_false hb11
    refine GL.run (j := 4) 1 [1, 2, 9, 10] [(1, .int .u64 (a : Int)), (2, pt p3 0), (9, .bool false), (10, .int .u64 (a : Int))] (by kernel_rfl) rfl ?_
    refine GL.call (j := 5) (Right_calls a w4) (by kernel_rfl) rfl (fun e_ w12 hR => ?_)
    obtain ⟨rfl, H14⟩ := hR
    have H13 : Hp w [] [.blk p3 [.int .u64 (c : Int), .int .u64 (i : Int)] 26] w12 := H6.callNil H14
    refine ⟨_, rfl, [1, 2, 9, 11], [(1, .int .u64 (a : Int)), (2, pt p3 0), (9, .bool false), (11, .bool (decide ((a : Int) ≤ 4611686018427387904)))], by kernel_rfl, ?_⟩
    refine GL.run (j := 8) 3 [1, 2, 6] [(1, .int .u64 (a : Int)), (2, pt p3 0), (6, .bool (!(decide ((a : Int) ≤ 4611686018427387904))))] (by kernel_rfl) rfl ?_
    refine GL.k rfl hK10 (fun _ _ h => h) ?_
    cases hb15 : (decide ((a : Int) ≤ 4611686018427387904))
    · skip
      have hb15f := of_decide_eq_false hb15
      refine G.yes rfl ?_
      refine G.seqK fun K16 hK17 => ?_
      refine G.region ?_
      refine GL.run (j := 2) 2 [4, 5] [(4, .int .u64 0), (5, .int .i64 1)] (by kernel_rfl) rfl ?_
      refine GL.k rfl hK17 (fun _ _ h => h) ?_
      refine G.ret ?_
      intro F_ hF_ hM_
      refine hRet _ _ (bodyPost_2 rfl (RV.tmp rfl) (RV.tmp rfl) ?_ F_ hF_ hM_)
      have c1 : shV c i a = 0 := by rw [shV, if_pos (by omega)]
      have c2 : shE c i a = 1 := by rw [shE, if_pos (by omega)]
      rw [c1, c2]
      exact ⟨rfl, H13.sub (List.nil_sublist _)⟩
    · skip
      have hb15f := of_decide_eq_true hb15
      refine G.no rfl ?_
      refine G.seqK fun K18 hK19 => ?_
      refine G.region ?_
      refine GL.run (j := 1) 1 [1, 2, 15] [(1, .int .u64 (a : Int)), (2, pt p3 0), (15, pt p3 1)] (by kernel_rfl) rfl ?_
      refine GL.sem (j := 2) (H13.ld (o := 1) (ty := 23) (v := .int .u64 (i : Int)) 0 rfl (by kernel_rfl) rfl) [1, 2, 16] [(1, .int .u64 (a : Int)), (2, pt p3 0), (16, .int .u64 (i : Int))] (by kernel_rfl) (by kernel_rfl) rfl ?_
      refine GL.run (j := 5) 3 [1, 2, 14] [(1, .int .u64 (a : Int)), (2, pt p3 0), (14, .bool (decide ((i : Int) < (a : Int))))] (by kernel_rfl) rfl ?_
      refine GL.k rfl hK19 (fun _ _ h => h) ?_
      cases hb20 : (decide ((i : Int) < (a : Int)))
      · skip
        have hb20f := of_decide_eq_false hb20
        refine G.no rfl ?_
        refine G.skipK hK8 (fun _ _ h => h) ?_
        refine G.seqK fun K21 hK22 => ?_
        refine G.region ?_
        refine GL.run (j := 1) 1 [1, 2, 19] [(1, .int .u64 (a : Int)), (2, pt p3 0), (19, pt p3 0)] (by kernel_rfl) rfl ?_
        refine GL.sem (j := 2) (H13.ld (o := 0) (ty := 23) (v := .int .u64 (c : Int)) 0 rfl (by kernel_rfl) rfl) [1, 2, 20] [(1, .int .u64 (a : Int)), (2, pt p3 0), (20, .int .u64 (c : Int))] (by kernel_rfl) (by kernel_rfl) rfl ?_
        refine GL.run (j := 4) 2 [20, 21, 22] [(20, .int .u64 (c : Int)), (21, .int .u64 (a : Int)), (22, pt p3 1)] (by kernel_rfl) rfl ?_
        refine GL.sem (j := 5) (H13.ld (o := 1) (ty := 23) (v := .int .u64 (i : Int)) 0 rfl (by kernel_rfl) rfl) [20, 21, 23] [(20, .int .u64 (c : Int)), (21, .int .u64 (a : Int)), (23, .int .u64 (i : Int))] (by kernel_rfl) (by kernel_rfl) rfl ?_
        refine GL.call (j := 6) (Part_down c a i hc ha hi (by omega) w12) (by kernel_rfl) rfl (fun e_ w23 hR => ?_)
        obtain ⟨rfl, H25⟩ := hR
        have H24 : Hp w [] [.blk p3 [.int .u64 (c : Int), .int .u64 (i : Int)] 26] w23 := H13.callNil H25
        refine ⟨_, rfl, [24], [(24, .tuple #[.int .u64 (((partV c a i false) : Nat) : Int), .int .i64 (((partE c a i false) : Nat) : Int)])], by kernel_rfl, ?_⟩
        refine GL.run (j := 10) 4 [4, 5] [(4, .int .u64 (((partV c a i false) : Nat) : Int)), (5, .int .i64 (((partE c a i false) : Nat) : Int))] (by kernel_rfl) rfl ?_
        refine GL.k rfl hK22 (fun _ _ h => h) ?_
        refine G.ret ?_
        intro F_ hF_ hM_
        refine hRet _ _ (bodyPost_2 rfl (RV.tmp rfl) (RV.tmp rfl) ?_ F_ hF_ hM_)
        have c1 : shV c i a = partV c a i false := by rw [shV, if_neg (by omega), if_neg (by omega)]
        have c2 : shE c i a = partE c a i false := by rw [shE, if_neg (by omega), if_neg (by omega)]
        rw [c1, c2]
        exact ⟨rfl, H24.sub (List.nil_sublist _)⟩
      · skip
        have hb20f := of_decide_eq_true hb20
        refine G.yes rfl ?_
        refine G.seqK fun K26 hK27 => ?_
        refine G.region ?_
        refine GL.run (j := 2) 2 [4, 5] [(4, .int .u64 0), (5, .int .i64 16)] (by kernel_rfl) rfl ?_
        refine GL.k rfl hK27 (fun _ _ h => h) ?_
        refine G.ret ?_
        intro F_ hF_ hM_
        refine hRet _ _ (bodyPost_2 rfl (RV.tmp rfl) (RV.tmp rfl) ?_ F_ hF_ hM_)
        have c1 : shV c i a = 0 := by rw [shV, if_neg (by omega), if_pos (by omega)]
        have c2 : shE c i a = 16 := by rw [shE, if_neg (by omega), if_pos (by omega)]
        rw [c1, c2]
        exact ⟨rfl, H13.sub (List.nil_sublist _)⟩
  · skip
    have hb11f := eq_of_beq hb11
    refine GL.run (j := 8) 5 [1, 2, 6] [(1, .int .u64 (a : Int)), (2, pt p3 0), (6, .bool true)] (by kernel_rfl) rfl ?_
    refine GL.k rfl hK10 (fun _ _ h => h) ?_
    refine G.yes rfl ?_
    refine G.seqK fun K28 hK29 => ?_
    refine G.region ?_
    refine GL.run (j := 2) 2 [4, 5] [(4, .int .u64 0), (5, .int .i64 1)] (by kernel_rfl) rfl ?_
    refine GL.k rfl hK29 (fun _ _ h => h) ?_
    refine G.ret ?_
    intro F_ hF_ hM_
    refine hRet _ _ (bodyPost_2 rfl (RV.tmp rfl) (RV.tmp rfl) ?_ F_ hF_ hM_)
    have c1 : shV c i a = 0 := by rw [shV, if_pos (by omega)]
    have c2 : shE c i a = 1 := by rw [shE, if_pos (by omega)]
    rw [c1, c2]
    exact ⟨rfl, H6.sub (List.nil_sublist _)⟩
theorem Burn_calls (b c i a : Nat) (hc : c < K) (hi : i < K) (ha : a < K) (w : World) (hb : Blk w b [.int .u64 (c : Int), .int .u64 (i : Int)] 26) : Calls Try.prog 6 #[pt b 0, .int .u64 (a : Int)] w fun e w' => e = .returned (.tuple #[.int .u64 ((shV c i a : Nat) : Int), .int .i64 ((shE c i a : Nat) : Int)]) ∧ Hp w [b] [.blk b [.int .u64 (((c - shV c i a) : Nat) : Int), .int .u64 (((shI c i a) : Nat) : Int)] 26] w' := by
  have hMX : MX = 4611686018427387904 := rfl
  have hK0 : K = 18446744073709551616 := rfl
  have hK40 : K4 = 115792089237316195423570985008687907853269984665640564039457584007913129639936 := rfl
  refine calls_G (args := [pt b 0, .int .u64 (a : Int)]) Try.func6 rfl Try.ntmps6 rfl ?_
  intro Q0 hRet hNor hPan
  have H := Hp.startBlk hb
  have H : Hp w [b] [.blk b [.int .u64 (c : Int), .int .u64 (i : Int)] 26] w := H
  refine G.seqK fun K1 hK2 => ?_
  refine G.region ?_
  refine GL.run (j := 2) 2 [0, 1] [(0, pt b 0), (1, .int .u64 (a : Int))] (by kernel_rfl) rfl ?_
  refine GL.k rfl hK2 (fun _ _ h => h) ?_
  refine G.seqK fun K3 hK4 => ?_
  refine G.seqK fun K5 hK6 => ?_
  refine G.region ?_
  refine GL.run (j := 2) 2 [0, 1, 9] [(0, pt b 0), (1, .int .u64 (a : Int)), (9, .bool false)] (by kernel_rfl) rfl ?_
  refine GL.k rfl hK6 (fun _ _ h => h) ?_
  refine G.no rfl ?_
  refine G.skipK hK4 (fun _ _ h => h) ?_
  refine G.seqK fun K7 hK8 => ?_
  refine G.region ?_
  refine GL.run (j := 2) 2 [0, 1, 12] [(0, pt b 0), (1, .int .u64 (a : Int)), (12, pt b 0)] (by kernel_rfl) rfl ?_
  refine GL.sem (j := 3) (H.ldA (o := 0) (ty := 26) (m := 2) (sub := [.int .u64 (c : Int), .int .u64 (i : Int)]) 0 rfl (by kernel_rfl) rfl rfl) [0, 1, 13] [(0, pt b 0), (1, .int .u64 (a : Int)), (13, .agg #[.int .u64 (c : Int), .int .u64 (i : Int)])] (by kernel_rfl) (by kernel_rfl) rfl ?_
  refine GL.run (j := 4) 1 [0, 1, 13, 14] [(0, pt b 0), (1, .int .u64 (a : Int)), (13, .agg #[.int .u64 (c : Int), .int .u64 (i : Int)]), (14, .int .u64 (a : Int))] (by kernel_rfl) rfl ?_
  refine GL.call (j := 5) (Share_calls c i a hc hi ha w) (by kernel_rfl) rfl (fun e_ w9 hR => ?_)
  obtain ⟨rfl, H11⟩ := hR
  have H10 : Hp w [b] [.blk b [.int .u64 (c : Int), .int .u64 (i : Int)] 26] w9 := H.callNil H11
  refine ⟨_, rfl, [0, 1, 15], [(0, pt b 0), (1, .int .u64 (a : Int)), (15, .tuple #[.int .u64 (((shV c i a) : Nat) : Int), .int .i64 (((shE c i a) : Nat) : Int)])], by kernel_rfl, ?_⟩
  refine GL.run (j := 10) 5 [0, 1, 6, 7] [(0, pt b 0), (1, .int .u64 (a : Int)), (6, .int .u64 (((shV c i a) : Nat) : Int)), (7, .int .i64 (((shE c i a) : Nat) : Int))] (by kernel_rfl) rfl ?_
  refine GL.k rfl hK8 (fun _ _ h => h) ?_
  refine G.seqK fun K12 hK13 => ?_
  refine G.seqK fun K14 hK15 => ?_
  refine G.region ?_
  refine GL.run (j := 2) 2 [0, 1, 6, 7, 19] [(0, pt b 0), (1, .int .u64 (a : Int)), (6, .int .u64 (((shV c i a) : Nat) : Int)), (7, .int .i64 (((shE c i a) : Nat) : Int)), (19, .bool ((((shE c i a) : Nat) : Int) != 0))] (by kernel_rfl) rfl ?_
  refine GL.k rfl hK15 (fun _ _ h => h) ?_
  cases hb16 : ((((shE c i a) : Nat) : Int) != 0)
  · skip
    have hb16f : (((shE c i a) : Nat) : Int) = 0 := by simpa using hb16
    have hE0 : shE c i a = 0 := by omega
    have hsm := sh_some hE0
    have hsl := shV_le c i a
    refine G.no rfl ?_
    refine G.skipK hK13 (fun _ _ h => h) ?_
    refine G.seqK fun K17 hK18 => ?_
    refine G.region ?_
    refine GL.run (j := 3) 3 [0, 1, 6, 21, 23] [(0, pt b 0), (1, .int .u64 (a : Int)), (6, .int .u64 (((shV c i a) : Nat) : Int)), (21, pt b 0), (23, pt b 1)] (by kernel_rfl) rfl ?_
    refine GL.sem (j := 4) (H10.ld (o := 1) (ty := 23) (v := .int .u64 (i : Int)) 0 rfl (by kernel_rfl) rfl) [0, 1, 6, 21, 24] [(0, pt b 0), (1, .int .u64 (a : Int)), (6, .int .u64 (((shV c i a) : Nat) : Int)), (21, pt b 0), (24, .int .u64 (i : Int))] (by kernel_rfl) (by kernel_rfl) rfl ?_
    refine GL.run (j := 8) 4 [0, 6, 26, 28] [(0, pt b 0), (6, .int .u64 (((shV c i a) : Nat) : Int)), (26, .int .u64 (IntKind.u64.wrap ((i : Int) - (a : Int)))), (28, pt b 1)] (by kernel_rfl) rfl ?_
    have e19 : (IntKind.u64.wrap ((i : Int) - (a : Int))) = ((i - a : Nat) : Int) := n_sub (a := i) (b := a) (by omega) (by omega)
    refine GL.eq (M' := [(0, pt b 0), (6, .int .u64 (((shV c i a) : Nat) : Int)), (26, .int .u64 ((i - a : Nat) : Int)), (28, pt b 1)]) (by rw [e19]) ?_
    clear e19
    obtain ⟨w20, r21, H22⟩ := H10.st (P := Try.prog) (o := 1) (ty := 23) (v := .int .u64 ((i - a : Nat) : Int)) 0 rfl (by kernel_rfl) (by simp) rfl
    have H22 : Hp w [b] [.blk b [.int .u64 (c : Int), .int .u64 ((i - a : Nat) : Int)] 26] w20 := H22
    refine GL.semU (j := 9) r21 [0, 6] [(0, pt b 0), (6, .int .u64 (((shV c i a) : Nat) : Int))] (by kernel_rfl) rfl rfl rfl ?_
    refine GL.k rfl hK18 (fun _ _ h => h) ?_
    refine G.seqK fun K23 hK24 => ?_
    refine G.region ?_
    refine GL.run (j := 3) 3 [6, 29, 31] [(6, .int .u64 (((shV c i a) : Nat) : Int)), (29, pt b 0), (31, pt b 0)] (by kernel_rfl) rfl ?_
    refine GL.sem (j := 4) (H22.ld (o := 0) (ty := 23) (v := .int .u64 (c : Int)) 0 rfl (by kernel_rfl) rfl) [6, 29, 32] [(6, .int .u64 (((shV c i a) : Nat) : Int)), (29, pt b 0), (32, .int .u64 (c : Int))] (by kernel_rfl) (by kernel_rfl) rfl ?_
    refine GL.run (j := 8) 4 [6, 34, 36] [(6, .int .u64 (((shV c i a) : Nat) : Int)), (34, .int .u64 (IntKind.u64.wrap ((c : Int) - (((shV c i a) : Nat) : Int)))), (36, pt b 0)] (by kernel_rfl) rfl ?_
    have e25 : (IntKind.u64.wrap ((c : Int) - (((shV c i a) : Nat) : Int))) = ((c - (shV c i a) : Nat) : Int) := n_sub (a := c) (b := (shV c i a)) (by omega) (by omega)
    refine GL.eq (M' := [(6, .int .u64 (((shV c i a) : Nat) : Int)), (34, .int .u64 ((c - (shV c i a) : Nat) : Int)), (36, pt b 0)]) (by rw [e25]) ?_
    clear e25
    obtain ⟨w26, r27, H28⟩ := H22.st (P := Try.prog) (o := 0) (ty := 23) (v := .int .u64 ((c - (shV c i a) : Nat) : Int)) 0 rfl (by kernel_rfl) (by simp) rfl
    have H28 : Hp w [b] [.blk b [.int .u64 ((c - (shV c i a) : Nat) : Int), .int .u64 ((i - a : Nat) : Int)] 26] w26 := H28
    refine GL.semU (j := 9) r27 [6] [(6, .int .u64 (((shV c i a) : Nat) : Int))] (by kernel_rfl) rfl rfl rfl ?_
    refine GL.k rfl hK24 (fun _ _ h => h) ?_
    refine G.seqK fun K29 hK30 => ?_
    refine G.region ?_
    refine GL.run (j := 3) 3 [4, 5] [(4, .int .u64 (((shV c i a) : Nat) : Int)), (5, .int .i64 0)] (by kernel_rfl) rfl ?_
    refine GL.k rfl hK30 (fun _ _ h => h) ?_
    refine G.ret ?_
    intro F_ hF_ hM_
    refine hRet _ _ (bodyPost_2 rfl (RV.tmp rfl) (RV.tmp rfl) ?_ F_ hF_ hM_)
    rw [hsm.1, hE0]
    exact ⟨rfl, H28⟩
  · skip
    have hb16f : (((shE c i a) : Nat) : Int) ≠ 0 := by simpa using hb16
    have hsn := sh_none (c := c) (i := i) (a := a) (by omega)
    refine G.yes rfl ?_
    refine G.seqK fun K31 hK32 => ?_
    refine G.region ?_
    refine GL.run (j := 3) 3 [4, 5] [(4, .int .u64 0), (5, .int .i64 (((shE c i a) : Nat) : Int))] (by kernel_rfl) rfl ?_
    refine GL.k rfl hK32 (fun _ _ h => h) ?_
    refine G.ret ?_
    intro F_ hF_ hM_
    refine hRet _ _ (bodyPost_2 rfl (RV.tmp rfl) (RV.tmp rfl) ?_ F_ hF_ hM_)
    rw [hsn.2, hsn.1, Nat.sub_zero]
    exact ⟨rfl, H10⟩
theorem Burn_nil (a : Nat) (w : World) : Calls Try.prog 6 #[.pointer none, .int .u64 (a : Int)] w fun e w' => e = .returned (.tuple #[.int .u64 0, .int .i64 1]) ∧ Hp w [] [] w' := by
  refine calls_G (args := [.pointer none, .int .u64 (a : Int)]) Try.func6 rfl Try.ntmps6 rfl ?_
  intro Q0 hRet hNor hPan
  have H := Hp.start w
  have H : Hp w [] [] w := H
  refine G.seqK fun K1 hK2 => ?_
  refine G.region ?_
  refine GL.run (j := 2) 2 [0, 1] [(0, .pointer none), (1, .int .u64 (a : Int))] (by kernel_rfl) rfl ?_
  refine GL.k rfl hK2 (fun _ _ h => h) ?_
  refine G.seqK fun K3 hK4 => ?_
  refine G.seqK fun K5 hK6 => ?_
  refine G.region ?_
  refine GL.run (j := 2) 2 [0, 1, 9] [(0, .pointer none), (1, .int .u64 (a : Int)), (9, .bool true)] (by kernel_rfl) rfl ?_
  refine GL.k rfl hK6 (fun _ _ h => h) ?_
  refine G.yes rfl ?_
  refine G.seqK fun K7 hK8 => ?_
  refine G.region ?_
  refine GL.run (j := 2) 2 [4, 5] [(4, .int .u64 0), (5, .int .i64 1)] (by kernel_rfl) rfl ?_
  refine GL.k rfl hK8 (fun _ _ h => h) ?_
  refine G.ret ?_
  intro F_ hF_ hM_
  refine hRet _ _ (bodyPost_2 rfl (RV.tmp rfl) (RV.tmp rfl) ?_ F_ hF_ hM_)
  exact ⟨rfl, H.sub (List.nil_sublist _)⟩
end Go.Proofs.Ytjfmibmmebdliaa
