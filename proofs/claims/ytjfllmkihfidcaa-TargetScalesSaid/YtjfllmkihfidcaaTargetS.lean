/- The contracts of package target: scaled. -/
import Derived.Test.YtjfllmkihfidcaaTarget
namespace Go.Proofs.Ytjfllmkihfidcaa
open Go.RowKit
/-- A target, scaled; why not. -/
def scV (t u d m : Nat) : Nat := if m < t * u / d then m else if t * u / d = 0 then 1 else t * u / d
def scR (t u d m : Nat) : Nat := if d = 0 ∨ m = 0 then 0 else scV t u d m
def scE (d m : Nat) : Nat := if d = 0 then 5 else if m = 0 then 1 else 0
theorem scR_lt {t u d m : Nat} (hm : m < K4) : scR t u d m < K4 := by
  have hK40 : K4 = 115792089237316195423570985008687907853269984665640564039457584007913129639936 := rfl
  unfold scR scV
  generalize t * u / d = q
  split
  · omega
  · split
    · exact hm
    · split <;> omega
theorem scale_exact {t u d : Nat} (hd : d ≠ 0) : t * u / d = t / d * u + t % d * u / d := by
  have h : t * u = d * (t / d * u) + t % d * u := by
    rw [← Nat.mul_assoc, ← Nat.add_mul, Nat.div_add_mod]
  rw [h, Nat.mul_add_div (by omega)]
theorem Scale_calls (t u d m : Nat) (ht : t < K4) (hu : u < K) (hd : d < K) (hm : m < K4) (w : World) : Calls Try.prog 23 #[wv t, .int .u64 (u : Int), .int .u64 (d : Int), wv m] w fun e w' => e = .returned (.tuple #[wv (scR t u d m), .int .i64 ((scE d m : Nat) : Int)]) ∧ Hp w [] [] w' := by
  have hMX : MX = 4611686018427387904 := rfl
  have hK0 : K = 18446744073709551616 := rfl
  have hK40 : K4 = 115792089237316195423570985008687907853269984665640564039457584007913129639936 := rfl
  refine calls_G (args := [wv t, .int .u64 (u : Int), .int .u64 (d : Int), wv m]) Try.func23 rfl Try.ntmps23 rfl ?_
  intro Q0 hRet hNor hPan
  have H := Hp.start w
  have H : Hp w [] [] w := H
  refine G.seqK fun K1 hK2 => ?_
  refine G.region ?_
  obtain ⟨p3, w4, r5, H6⟩ := H.box (P := Try.prog) 24 (wl t) (wv t) rfl
  have H6 : Hp w [] [.blk p3 (wl t) 24] w4 := H6
  refine GL.sem (j := 1) (r5) [1, 2, 3, 4] [(1, .int .u64 (u : Int)), (2, .int .u64 (d : Int)), (3, wv m), (4, pt p3 0)] (by kernel_rfl) (by kernel_rfl) rfl ?_
  obtain ⟨p7, w8, r9, H10⟩ := H6.box (P := Try.prog) 24 (wl m) (wv m) rfl
  have H10 : Hp w [] [.blk p3 (wl t) 24, .blk p7 (wl m) 24] w8 := H10
  refine GL.sem (j := 2) (r9) [1, 2, 4, 7] [(1, .int .u64 (u : Int)), (2, .int .u64 (d : Int)), (4, pt p3 0), (7, pt p7 0)] (by kernel_rfl) (by kernel_rfl) rfl ?_
  obtain ⟨p11, w12, r13, H14⟩ := H10.alloc (P := Try.prog) 24 z4 (by kernel_rfl)
  have H14 : Hp w [] [.blk p3 (wl t) 24, .blk p7 (wl m) 24, .blk p11 z4 24] w12 := H14
  refine GL.sem (j := 3) (r13) [1, 2, 4, 7, 8] [(1, .int .u64 (u : Int)), (2, .int .u64 (d : Int)), (4, pt p3 0), (7, pt p7 0), (8, pt p11 0)] (by kernel_rfl) (by kernel_rfl) rfl ?_
  refine GL.run (j := 4) 1 [1, 2, 4, 7, 8] [(1, .int .u64 (u : Int)), (2, .int .u64 (d : Int)), (4, pt p3 0), (7, pt p7 0), (8, pt p11 0)] (by kernel_rfl) rfl ?_
  refine GL.k rfl hK2 (fun _ _ h => h) ?_
  refine G.seqK fun K15 hK16 => ?_
  refine G.block ?_
  refine G.seqK fun K17 hK18 => ?_
  refine G.region ?_
  refine GL.run (j := 3) 3 [1, 2, 4, 7, 8, 19] [(1, .int .u64 (u : Int)), (2, .int .u64 (d : Int)), (4, pt p3 0), (7, pt p7 0), (8, pt p11 0), (19, .bool ((d : Int) == 0))] (by kernel_rfl) rfl ?_
  refine GL.k rfl hK18 (fun _ _ h => h) ?_
  cases hb19 : ((d : Int) == 0)
  · skip
    have hb19f := ne_of_beq_false hb19
    have hd0 : d ≠ 0 := by omega
    refine G.no rfl ?_
    refine G.seqK fun K20 hK21 => ?_
    refine G.region ?_
    refine GL.sem (j := 1) (H14.ldA (o := 0) (ty := 24) (m := 4) (sub := (wl m)) 1 rfl (by kernel_rfl) rfl rfl) [1, 2, 4, 7, 8, 24] [(1, .int .u64 (u : Int)), (2, .int .u64 (d : Int)), (4, pt p3 0), (7, pt p7 0), (8, pt p11 0), (24, wv m)] (by kernel_rfl) (by kernel_rfl) rfl ?_
    refine GL.run (j := 2) 1 [1, 2, 4, 7, 8, 24, 25] [(1, .int .u64 (u : Int)), (2, .int .u64 (d : Int)), (4, pt p3 0), (7, pt p7 0), (8, pt p11 0), (24, wv m), (25, .agg #[.int .u64 0, .int .u64 0, .int .u64 0, .int .u64 0])] (by kernel_rfl) rfl ?_
    refine GL.sem (j := 3) (run_arr_eql (P := Try.prog) (t := 24) (n := 4) (k := .u64) (x := (.tmp 24)) (y := (.tmp 25)) (by kernel_rfl) [(wd m 0 : Int), (wd m 1 : Int), (wd m 2 : Int), (wd m 3 : Int)] [0, 0, 0, 0] rfl rfl _) [1, 2, 4, 7, 8, 26] [(1, .int .u64 (u : Int)), (2, .int .u64 (d : Int)), (4, pt p3 0), (7, pt p7 0), (8, pt p11 0), (26, .bool (decide (([(wd m 0 : Int), (wd m 1 : Int), (wd m 2 : Int), (wd m 3 : Int)] : List Int) = [0, 0, 0, 0])))] (by kernel_rfl) (by kernel_rfl) rfl ?_
    refine GL.run (j := 4) 1 [1, 2, 4, 7, 8, 23] [(1, .int .u64 (u : Int)), (2, .int .u64 (d : Int)), (4, pt p3 0), (7, pt p7 0), (8, pt p11 0), (23, .bool (decide (([(wd m 0 : Int), (wd m 1 : Int), (wd m 2 : Int), (wd m 3 : Int)] : List Int) = [0, 0, 0, 0])))] (by kernel_rfl) rfl ?_
    refine GL.k rfl hK21 (fun _ _ h => h) ?_
    cases hb22 : (decide (([(wd m 0 : Int), (wd m 1 : Int), (wd m 2 : Int), (wd m 3 : Int)] : List Int) = [0, 0, 0, 0]))
    · skip
      have hb22f := of_decide_eq_false hb22
      have hm0 : m ≠ 0 := fun h => hb22f ((wv_eq (y := 0) hm (by decide)).2 h)
      refine G.no rfl ?_
      refine G.skipK hK16 (fun _ _ h => h) ?_
      refine G.seqK fun K23 hK24 => ?_
      refine G.heldP (Hp w [] [.blk p3 (wl t) 24, .blk p7 (wl m) 24, .blk p11 z4 24]) (by kernel_rfl) (by kernel_rfl) (fun c_ a_ d_ v_ w_ h_ => hPan c_ a_ d_ v_ w_ h_) ?_
      have H25 := H14.drew
      generalize ({ w12 with drawn := w12.drawn + 1 } : World) = w26 at H25 ⊢
      have hS27 : Hp w [] [.blk p3 (wl t) 24, .blk p7 (wl m) 24, .blk p11 z4 24] w26 := H25.sub (List.Sublist.cons_cons _ (List.Sublist.cons_cons _ (List.Sublist.cons_cons _ (List.Sublist.slnil))))
      refine GP.sem 0 (fun w_ H_ => H_.ldA (o := 0) (ty := 24) (m := 4) (sub := (wl t)) 0 rfl (by kernel_rfl) rfl rfl) [1, 2, 7, 8, 29] [(1, .int .u64 (u : Int)), (2, .int .u64 (d : Int)), (7, pt p7 0), (8, pt p11 0), (29, wv t)] (by kernel_rfl) (by kernel_rfl) (by kernel_rfl) hS27 ?_
      refine GP.run [1] [1, 2, 7, 8, 29, 30] [(1, .int .u64 (u : Int)), (2, .int .u64 (d : Int)), (7, pt p7 0), (8, pt p11 0), (29, wv t), (30, .int .u64 (d : Int))] [0, 1] (by kernel_rfl) rfl hS27 ?_
      refine GP.named fun X hX => ?_
      have st131 : ∀ (wD_ : World) (p74 : Nat) (p106 : Nat), Hp w [] [.blk p3 (wl t) 24, .blk p7 (wl m) 24, .blk p11 z4 24, .blk p74 z4 24, .blk p106 z4 24] wD_ → X [0, 1, 2, 3, 4, 5, 6, 7, 8, 9] [(1, .int .u64 (u : Int)), (2, .int .u64 (d : Int)), (7, pt p7 0), (8, pt p11 0), (10, pt p74 0), (11, pt p106 0), (33, wv (t / d)), (34, wv (t % d)), (35, .int .i64 0)] wD_ := by
        intro wD_ p74 p106 HD_
        rw [hX]
        have hS132 : Hp w [] [.blk p3 (wl t) 24, .blk p7 (wl m) 24, .blk p11 z4 24] wD_ := HD_.sub (List.Sublist.cons_cons _ (List.Sublist.cons_cons _ (List.Sublist.cons_cons _ (List.Sublist.cons _ (List.Sublist.cons _ (List.Sublist.slnil))))))
        obtain ⟨w133, r134, H135⟩ := HD_.stA (P := Try.prog) (o := 0) (vs := (wl (t / d))) (ty := 24) (m := 4) 3 rfl (by kernel_rfl) rfl (by first | decide | simp) (wl_one _)
        have H135 : Hp w [] [.blk p3 (wl t) 24, .blk p7 (wl m) 24, .blk p11 z4 24, .blk p74 (wl (t / d)) 24, .blk p106 z4 24] w133 := H135
        have hS136 : Hp w [] [.blk p3 (wl t) 24, .blk p7 (wl m) 24, .blk p11 z4 24] w133 := H135.sub (List.Sublist.cons_cons _ (List.Sublist.cons_cons _ (List.Sublist.cons_cons _ (List.Sublist.cons _ (List.Sublist.cons _ (List.Sublist.slnil))))))
        refine GP.semU 10 r134 [1, 2, 7, 8, 10, 11, 34, 35] [(1, .int .u64 (u : Int)), (2, .int .u64 (d : Int)), (7, pt p7 0), (8, pt p11 0), (10, pt p74 0), (11, pt p106 0), (34, wv (t % d)), (35, .int .i64 0)] (by kernel_rfl) rfl rfl (by kernel_rfl) hS136 ?_
        obtain ⟨w137, r138, H139⟩ := H135.stA (P := Try.prog) (o := 0) (vs := (wl (t % d))) (ty := 24) (m := 4) 4 rfl (by kernel_rfl) rfl (by first | decide | simp) (wl_one _)
        have H139 : Hp w [] [.blk p3 (wl t) 24, .blk p7 (wl m) 24, .blk p11 z4 24, .blk p74 (wl (t / d)) 24, .blk p106 (wl (t % d)) 24] w137 := H139
        have hS140 : Hp w [] [.blk p3 (wl t) 24, .blk p7 (wl m) 24, .blk p11 z4 24] w137 := H139.sub (List.Sublist.cons_cons _ (List.Sublist.cons_cons _ (List.Sublist.cons_cons _ (List.Sublist.cons _ (List.Sublist.cons _ (List.Sublist.slnil))))))
        refine GP.semU 11 r138 [1, 2, 7, 8, 10, 11, 35] [(1, .int .u64 (u : Int)), (2, .int .u64 (d : Int)), (7, pt p7 0), (8, pt p11 0), (10, pt p74 0), (11, pt p106 0), (35, .int .i64 0)] (by kernel_rfl) rfl rfl (by kernel_rfl) hS140 ?_
        refine GP.run [12] [1, 2, 7, 8, 10, 11] [(1, .int .u64 (u : Int)), (2, .int .u64 (d : Int)), (7, pt p7 0), (8, pt p11 0), (10, pt p74 0), (11, pt p106 0)] [0, 1, 2, 3, 4, 5, 6, 7, 8, 9, 10, 11, 12] (by kernel_rfl) rfl hS140 ?_
        refine GP.k (by kernel_rfl) hK24 (fun _ _ h => h) ?_
        refine G.seqK fun K141 hK142 => ?_
        refine G.region ?_
        refine GL.sem (j := 1) (H139.ldA (o := 0) (ty := 24) (m := 4) (sub := (wl (t / d))) 3 rfl (by kernel_rfl) rfl rfl) [1, 2, 7, 8, 11, 37] [(1, .int .u64 (u : Int)), (2, .int .u64 (d : Int)), (7, pt p7 0), (8, pt p11 0), (11, pt p106 0), (37, wv (t / d))] (by kernel_rfl) (by kernel_rfl) rfl ?_
        refine GL.run (j := 2) 1 [1, 2, 7, 8, 11, 37, 38] [(1, .int .u64 (u : Int)), (2, .int .u64 (d : Int)), (7, pt p7 0), (8, pt p11 0), (11, pt p106 0), (37, wv (t / d)), (38, .int .u64 (u : Int))] (by kernel_rfl) rfl ?_
        refine GL.call (j := 3) (Mul_calls (t / d) u (Nat.lt_of_le_of_lt (Nat.div_le_self _ _) ht) hu w137) (by kernel_rfl) rfl (fun e_ w143 hR => ?_)
        obtain ⟨he_, H145⟩ := hR
        obtain ⟨n146, hn147⟩ : ∃ v : Nat, v = (t / d) * u % K4 := ⟨_, rfl⟩
        rw [← hn147] at he_
        have n146l : n146 < K4 := by rw [hn147]; exact Nat.mod_lt _ (by decide)
        subst he_
        have H144 : Hp w [] [.blk p3 (wl t) 24, .blk p7 (wl m) 24, .blk p11 z4 24, .blk p74 (wl (t / d)) 24, .blk p106 (wl (t % d)) 24] w143 := H139.callNil H145
        refine ⟨_, rfl, [1, 2, 7, 8, 11, 39], [(1, .int .u64 (u : Int)), (2, .int .u64 (d : Int)), (7, pt p7 0), (8, pt p11 0), (11, pt p106 0), (39, .tuple #[wv n146, .bool (decide (K4 ≤ (t / d) * u))])], by kernel_rfl, ?_⟩
        refine GL.run (j := 6) 3 [1, 2, 7, 8, 11, 40, 41] [(1, .int .u64 (u : Int)), (2, .int .u64 (d : Int)), (7, pt p7 0), (8, pt p11 0), (11, pt p106 0), (40, wv n146), (41, .bool (decide (K4 ≤ (t / d) * u)))] (by kernel_rfl) rfl ?_
        obtain ⟨p148, w149, r150, H151⟩ := H144.alloc (P := Try.prog) 24 z4 (by kernel_rfl)
        have H151 : Hp w [] [.blk p3 (wl t) 24, .blk p7 (wl m) 24, .blk p11 z4 24, .blk p74 (wl (t / d)) 24, .blk p106 (wl (t % d)) 24, .blk p148 z4 24] w149 := H151
        refine GL.sem (j := 7) (r150) [1, 2, 7, 8, 11, 13, 40, 41] [(1, .int .u64 (u : Int)), (2, .int .u64 (d : Int)), (7, pt p7 0), (8, pt p11 0), (11, pt p106 0), (13, pt p148 0), (40, wv n146), (41, .bool (decide (K4 ≤ (t / d) * u)))] (by kernel_rfl) (by kernel_rfl) rfl ?_
        obtain ⟨w152, r153, H154⟩ := H151.stA (P := Try.prog) (o := 0) (vs := (wl n146)) (ty := 24) (m := 4) 5 rfl (by kernel_rfl) rfl (by first | decide | simp) (wl_one _)
        have H154 : Hp w [] [.blk p3 (wl t) 24, .blk p7 (wl m) 24, .blk p11 z4 24, .blk p74 (wl (t / d)) 24, .blk p106 (wl (t % d)) 24, .blk p148 (wl n146) 24] w152 := H154
        refine GL.semU (j := 8) r153 [1, 2, 7, 8, 11, 13, 41] [(1, .int .u64 (u : Int)), (2, .int .u64 (d : Int)), (7, pt p7 0), (8, pt p11 0), (11, pt p106 0), (13, pt p148 0), (41, .bool (decide (K4 ≤ (t / d) * u)))] (by kernel_rfl) rfl rfl rfl ?_
        refine GL.run (j := 9) 1 [1, 2, 7, 8, 11, 13, 14] [(1, .int .u64 (u : Int)), (2, .int .u64 (d : Int)), (7, pt p7 0), (8, pt p11 0), (11, pt p106 0), (13, pt p148 0), (14, .bool (decide (K4 ≤ (t / d) * u)))] (by kernel_rfl) rfl ?_
        refine GL.k rfl hK142 (fun _ _ h => h) ?_
        refine G.seqK fun K155 hK156 => ?_
        refine G.region ?_
        refine GL.sem (j := 1) (H154.ldA (o := 0) (ty := 24) (m := 4) (sub := (wl (t % d))) 4 rfl (by kernel_rfl) rfl rfl) [1, 2, 7, 8, 13, 14, 43] [(1, .int .u64 (u : Int)), (2, .int .u64 (d : Int)), (7, pt p7 0), (8, pt p11 0), (13, pt p148 0), (14, .bool (decide (K4 ≤ (t / d) * u))), (43, wv (t % d))] (by kernel_rfl) (by kernel_rfl) rfl ?_
        refine GL.run (j := 2) 1 [2, 7, 8, 13, 14, 43, 44] [(2, .int .u64 (d : Int)), (7, pt p7 0), (8, pt p11 0), (13, pt p148 0), (14, .bool (decide (K4 ≤ (t / d) * u))), (43, wv (t % d)), (44, .int .u64 (u : Int))] (by kernel_rfl) rfl ?_
        refine GL.call (j := 3) (Mul_calls (t % d) u (Nat.lt_of_le_of_lt (Nat.mod_le _ _) ht) hu w152) (by kernel_rfl) rfl (fun e_ w157 hR => ?_)
        obtain ⟨he_, H159⟩ := hR
        obtain ⟨n160, hn161⟩ : ∃ v : Nat, v = (t % d) * u % K4 := ⟨_, rfl⟩
        rw [← hn161] at he_
        have n160l : n160 < K4 := by rw [hn161]; exact Nat.mod_lt _ (by decide)
        subst he_
        have H158 : Hp w [] [.blk p3 (wl t) 24, .blk p7 (wl m) 24, .blk p11 z4 24, .blk p74 (wl (t / d)) 24, .blk p106 (wl (t % d)) 24, .blk p148 (wl n146) 24] w157 := H154.callNil H159
        refine ⟨_, rfl, [2, 7, 8, 13, 14, 45], [(2, .int .u64 (d : Int)), (7, pt p7 0), (8, pt p11 0), (13, pt p148 0), (14, .bool (decide (K4 ≤ (t / d) * u))), (45, .tuple #[wv n160, .bool (decide (K4 ≤ (t % d) * u))])], by kernel_rfl, ?_⟩
        refine GL.run (j := 6) 3 [2, 7, 8, 13, 14, 46, 47] [(2, .int .u64 (d : Int)), (7, pt p7 0), (8, pt p11 0), (13, pt p148 0), (14, .bool (decide (K4 ≤ (t / d) * u))), (46, wv n160), (47, .bool (decide (K4 ≤ (t % d) * u)))] (by kernel_rfl) rfl ?_
        obtain ⟨p162, w163, r164, H165⟩ := H158.alloc (P := Try.prog) 24 z4 (by kernel_rfl)
        have H165 : Hp w [] [.blk p3 (wl t) 24, .blk p7 (wl m) 24, .blk p11 z4 24, .blk p74 (wl (t / d)) 24, .blk p106 (wl (t % d)) 24, .blk p148 (wl n146) 24, .blk p162 z4 24] w163 := H165
        refine GL.sem (j := 7) (r164) [2, 7, 8, 13, 14, 15, 46, 47] [(2, .int .u64 (d : Int)), (7, pt p7 0), (8, pt p11 0), (13, pt p148 0), (14, .bool (decide (K4 ≤ (t / d) * u))), (15, pt p162 0), (46, wv n160), (47, .bool (decide (K4 ≤ (t % d) * u)))] (by kernel_rfl) (by kernel_rfl) rfl ?_
        obtain ⟨w166, r167, H168⟩ := H165.stA (P := Try.prog) (o := 0) (vs := (wl n160)) (ty := 24) (m := 4) 6 rfl (by kernel_rfl) rfl (by first | decide | simp) (wl_one _)
        have H168 : Hp w [] [.blk p3 (wl t) 24, .blk p7 (wl m) 24, .blk p11 z4 24, .blk p74 (wl (t / d)) 24, .blk p106 (wl (t % d)) 24, .blk p148 (wl n146) 24, .blk p162 (wl n160) 24] w166 := H168
        refine GL.semU (j := 8) r167 [2, 7, 8, 13, 14, 15, 47] [(2, .int .u64 (d : Int)), (7, pt p7 0), (8, pt p11 0), (13, pt p148 0), (14, .bool (decide (K4 ≤ (t / d) * u))), (15, pt p162 0), (47, .bool (decide (K4 ≤ (t % d) * u)))] (by kernel_rfl) rfl rfl rfl ?_
        refine GL.run (j := 9) 1 [2, 7, 8, 13, 14, 15] [(2, .int .u64 (d : Int)), (7, pt p7 0), (8, pt p11 0), (13, pt p148 0), (14, .bool (decide (K4 ≤ (t / d) * u))), (15, pt p162 0)] (by kernel_rfl) rfl ?_
        refine GL.k rfl hK156 (fun _ _ h => h) ?_
        refine G.seqK fun K169 hK170 => ?_
        refine G.heldP (Hp w [] [.blk p3 (wl t) 24, .blk p7 (wl m) 24, .blk p11 z4 24, .blk p74 (wl (t / d)) 24, .blk p106 (wl (t % d)) 24, .blk p148 (wl n146) 24]) (by kernel_rfl) (by kernel_rfl) (fun c_ a_ d_ v_ w_ h_ => hPan c_ a_ d_ v_ w_ h_) ?_
        have H171 := H168.drew
        generalize ({ w166 with drawn := w166.drawn + 1 } : World) = w172 at H171 ⊢
        have hS173 : Hp w [] [.blk p3 (wl t) 24, .blk p7 (wl m) 24, .blk p11 z4 24, .blk p74 (wl (t / d)) 24, .blk p106 (wl (t % d)) 24, .blk p148 (wl n146) 24] w172 := H171.sub (List.Sublist.cons_cons _ (List.Sublist.cons_cons _ (List.Sublist.cons_cons _ (List.Sublist.cons_cons _ (List.Sublist.cons_cons _ (List.Sublist.cons_cons _ (List.Sublist.cons _ (List.Sublist.slnil))))))))
        refine GP.run [1] [7, 8, 13, 14, 15, 50] [(7, pt p7 0), (8, pt p11 0), (13, pt p148 0), (14, .bool (decide (K4 ≤ (t / d) * u))), (15, pt p162 0), (50, .int .u64 (d : Int))] [1] (by kernel_rfl) rfl hS173 ?_
        refine GP.named fun X hX => ?_
        have st187 : ∀ (wD_ : World), Hp w [] [.blk p3 (wl t) 24, .blk p7 (wl m) 24, .blk p11 z4 24, .blk p74 (wl (t / d)) 24, .blk p106 (wl (t % d)) 24, .blk p148 (wl n146) 24, .blk p162 (wl n160) 24] wD_ → X [1, 0, 2] [(7, pt p7 0), (8, pt p11 0), (13, pt p148 0), (14, .bool (decide (K4 ≤ (t / d) * u))), (15, pt p162 0), (49, wv n160), (51, wv d)] wD_ := by
          intro wD_ HD_
          rw [hX]
          have hS188 : Hp w [] [.blk p3 (wl t) 24, .blk p7 (wl m) 24, .blk p11 z4 24, .blk p74 (wl (t / d)) 24, .blk p106 (wl (t % d)) 24, .blk p148 (wl n146) 24] wD_ := HD_.sub (List.Sublist.cons_cons _ (List.Sublist.cons_cons _ (List.Sublist.cons_cons _ (List.Sublist.cons_cons _ (List.Sublist.cons_cons _ (List.Sublist.cons_cons _ (List.Sublist.cons _ (List.Sublist.slnil))))))))
          refine GP.call 3 (Div_calls n160 d n160l (Nat.lt_trans hd (by decide)) (hd0) wD_) (by kernel_rfl) (by kernel_rfl) (fun e_ w189 hR => ?_)
          obtain ⟨he_, H191⟩ := hR
          obtain ⟨n192, hn193⟩ : ∃ v : Nat, v = n160 / d := ⟨_, rfl⟩
          rw [← hn193] at he_
          have n192l : n192 < K4 := by rw [hn193]; exact Nat.lt_of_le_of_lt (Nat.div_le_self _ _) n160l
          obtain ⟨n194, hn195⟩ : ∃ v : Nat, v = n160 % d := ⟨_, rfl⟩
          rw [← hn195] at he_
          have n194l : n194 < K4 := by rw [hn195]; exact Nat.lt_of_le_of_lt (Nat.mod_le _ _) n160l
          subst he_
          have hdmn192 : n192 * d + n194 = n160 := by rw [hn193, hn195] <;> exact Nat.div_add_mod' _ _
          have H190 : Hp w [] [.blk p3 (wl t) 24, .blk p7 (wl m) 24, .blk p11 z4 24, .blk p74 (wl (t / d)) 24, .blk p106 (wl (t % d)) 24, .blk p148 (wl n146) 24, .blk p162 (wl n160) 24] w189 := HD_.callNil H191
          have hS196 : Hp w [] [.blk p3 (wl t) 24, .blk p7 (wl m) 24, .blk p11 z4 24, .blk p74 (wl (t / d)) 24, .blk p106 (wl (t % d)) 24, .blk p148 (wl n146) 24] w189 := H190.sub (List.Sublist.cons_cons _ (List.Sublist.cons_cons _ (List.Sublist.cons_cons _ (List.Sublist.cons_cons _ (List.Sublist.cons_cons _ (List.Sublist.cons_cons _ (List.Sublist.cons _ (List.Sublist.slnil))))))))
          refine ⟨_, rfl, hS196, [7, 8, 13, 14, 15, 52], [(7, pt p7 0), (8, pt p11 0), (13, pt p148 0), (14, .bool (decide (K4 ≤ (t / d) * u))), (15, pt p162 0), (52, .tuple #[wv n192, wv n194, .int .i64 0])], by kernel_rfl, ?_⟩
          refine GP.run [4, 5, 6, 7] [7, 8, 13, 14, 15, 53] [(7, pt p7 0), (8, pt p11 0), (13, pt p148 0), (14, .bool (decide (K4 ≤ (t / d) * u))), (15, pt p162 0), (53, wv n192)] [1, 0, 2, 3, 4, 5, 6, 7] (by kernel_rfl) rfl hS196 ?_
          obtain ⟨w197, r198, H199⟩ := H190.stA (P := Try.prog) (o := 0) (vs := (wl n192)) (ty := 24) (m := 4) 6 rfl (by kernel_rfl) rfl (by first | decide | simp) (wl_one _)
          have H199 : Hp w [] [.blk p3 (wl t) 24, .blk p7 (wl m) 24, .blk p11 z4 24, .blk p74 (wl (t / d)) 24, .blk p106 (wl (t % d)) 24, .blk p148 (wl n146) 24, .blk p162 (wl n192) 24] w197 := H199
          have hS200 : Hp w [] [.blk p3 (wl t) 24, .blk p7 (wl m) 24, .blk p11 z4 24, .blk p74 (wl (t / d)) 24, .blk p106 (wl (t % d)) 24, .blk p148 (wl n146) 24] w197 := H199.sub (List.Sublist.cons_cons _ (List.Sublist.cons_cons _ (List.Sublist.cons_cons _ (List.Sublist.cons_cons _ (List.Sublist.cons_cons _ (List.Sublist.cons_cons _ (List.Sublist.cons _ (List.Sublist.slnil))))))))
          refine GP.semU 8 r198 [7, 8, 13, 14, 15] [(7, pt p7 0), (8, pt p11 0), (13, pt p148 0), (14, .bool (decide (K4 ≤ (t / d) * u))), (15, pt p162 0)] (by kernel_rfl) rfl rfl (by kernel_rfl) hS200 ?_
          refine GP.k (by kernel_rfl) hK170 (fun _ _ h => h) ?_
          refine G.seqK fun K201 hK202 => ?_
          refine G.region ?_
          refine GL.sem (j := 1) (H199.ldA (o := 0) (ty := 24) (m := 4) (sub := (wl n146)) 5 rfl (by kernel_rfl) rfl rfl) [7, 8, 14, 15, 57] [(7, pt p7 0), (8, pt p11 0), (14, .bool (decide (K4 ≤ (t / d) * u))), (15, pt p162 0), (57, wv n146)] (by kernel_rfl) (by kernel_rfl) rfl ?_
          refine GL.sem (j := 2) (H199.ldA (o := 0) (ty := 24) (m := 4) (sub := (wl n192)) 6 rfl (by kernel_rfl) rfl rfl) [7, 8, 14, 57, 58] [(7, pt p7 0), (8, pt p11 0), (14, .bool (decide (K4 ≤ (t / d) * u))), (57, wv n146), (58, wv n192)] (by kernel_rfl) (by kernel_rfl) rfl ?_
          refine GL.call (j := 3) (Add_calls n146 n192 n146l n192l w197) (by kernel_rfl) rfl (fun e_ w203 hR => ?_)
          obtain ⟨he_, H205⟩ := hR
          obtain ⟨n206, hn207⟩ : ∃ v : Nat, v = (n146 + n192) % K4 := ⟨_, rfl⟩
          rw [← hn207] at he_
          have n206l : n206 < K4 := by rw [hn207]; exact Nat.mod_lt _ (by decide)
          subst he_
          have H204 : Hp w [] [.blk p3 (wl t) 24, .blk p7 (wl m) 24, .blk p11 z4 24, .blk p74 (wl (t / d)) 24, .blk p106 (wl (t % d)) 24, .blk p148 (wl n146) 24, .blk p162 (wl n192) 24] w203 := H199.callNil H205
          refine ⟨_, rfl, [7, 8, 14, 59], [(7, pt p7 0), (8, pt p11 0), (14, .bool (decide (K4 ≤ (t / d) * u))), (59, .tuple #[wv n206, .bool (decide (K4 ≤ n146 + n192))])], by kernel_rfl, ?_⟩
          refine GL.run (j := 6) 3 [7, 8, 14, 60, 61] [(7, pt p7 0), (8, pt p11 0), (14, .bool (decide (K4 ≤ (t / d) * u))), (60, wv n206), (61, .bool (decide (K4 ≤ n146 + n192)))] (by kernel_rfl) rfl ?_
          obtain ⟨p208, w209, r210, H211⟩ := H204.alloc (P := Try.prog) 24 z4 (by kernel_rfl)
          have H211 : Hp w [] [.blk p3 (wl t) 24, .blk p7 (wl m) 24, .blk p11 z4 24, .blk p74 (wl (t / d)) 24, .blk p106 (wl (t % d)) 24, .blk p148 (wl n146) 24, .blk p162 (wl n192) 24, .blk p208 z4 24] w209 := H211
          refine GL.sem (j := 7) (r210) [7, 8, 14, 17, 60, 61] [(7, pt p7 0), (8, pt p11 0), (14, .bool (decide (K4 ≤ (t / d) * u))), (17, pt p208 0), (60, wv n206), (61, .bool (decide (K4 ≤ n146 + n192)))] (by kernel_rfl) (by kernel_rfl) rfl ?_
          obtain ⟨w212, r213, H214⟩ := H211.stA (P := Try.prog) (o := 0) (vs := (wl n206)) (ty := 24) (m := 4) 7 rfl (by kernel_rfl) rfl (by first | decide | simp) (wl_one _)
          have H214 : Hp w [] [.blk p3 (wl t) 24, .blk p7 (wl m) 24, .blk p11 z4 24, .blk p74 (wl (t / d)) 24, .blk p106 (wl (t % d)) 24, .blk p148 (wl n146) 24, .blk p162 (wl n192) 24, .blk p208 (wl n206) 24] w212 := H214
          refine GL.semU (j := 8) r213 [7, 8, 14, 17, 61] [(7, pt p7 0), (8, pt p11 0), (14, .bool (decide (K4 ≤ (t / d) * u))), (17, pt p208 0), (61, .bool (decide (K4 ≤ n146 + n192)))] (by kernel_rfl) rfl rfl rfl ?_
          refine GL.run (j := 9) 1 [7, 8, 14, 17, 18] [(7, pt p7 0), (8, pt p11 0), (14, .bool (decide (K4 ≤ (t / d) * u))), (17, pt p208 0), (18, .bool (decide (K4 ≤ n146 + n192)))] (by kernel_rfl) rfl ?_
          refine GL.k rfl hK202 (fun _ _ h => h) ?_
          refine G.seqK fun K215 hK216 => ?_
          refine G.seqK fun K217 hK218 => ?_
          refine G.region ?_
          refine GL.run (j := 2) 2 [7, 8, 17, 18, 63] [(7, pt p7 0), (8, pt p11 0), (17, pt p208 0), (18, .bool (decide (K4 ≤ n146 + n192))), (63, .bool (decide (K4 ≤ (t / d) * u)))] (by kernel_rfl) rfl ?_
          cases hb219 : (decide (K4 ≤ (t / d) * u))
          · skip
            have hb219f := of_decide_eq_false hb219
            refine GL.run (j := 5) 3 [7, 8, 17, 66] [(7, pt p7 0), (8, pt p11 0), (17, pt p208 0), (66, .bool (decide (K4 ≤ n146 + n192)))] (by kernel_rfl) rfl ?_
            cases hb220 : (decide (K4 ≤ n146 + n192))
            · skip
              have hb220f := of_decide_eq_false hb220
              refine GL.sem (j := 6) (H214.ldA (o := 0) (ty := 24) (m := 4) (sub := (wl n206)) 7 rfl (by kernel_rfl) rfl rfl) [7, 8, 17, 66, 67] [(7, pt p7 0), (8, pt p11 0), (17, pt p208 0), (66, .bool false), (67, wv n206)] (by kernel_rfl) (by kernel_rfl) rfl ?_
              refine GL.sem (j := 7) (H214.ldA (o := 0) (ty := 24) (m := 4) (sub := (wl m)) 1 rfl (by kernel_rfl) rfl rfl) [7, 8, 17, 66, 67, 68] [(7, pt p7 0), (8, pt p11 0), (17, pt p208 0), (66, .bool false), (67, wv n206), (68, wv m)] (by kernel_rfl) (by kernel_rfl) rfl ?_
              refine GL.call (j := 8) (Cmp_calls n206 m n206l hm w212) (by kernel_rfl) rfl (fun e_ w221 hR => ?_)
              obtain ⟨he_, H223⟩ := hR
              subst he_
              have H222 : Hp w [] [.blk p3 (wl t) 24, .blk p7 (wl m) 24, .blk p11 z4 24, .blk p74 (wl (t / d)) 24, .blk p106 (wl (t % d)) 24, .blk p148 (wl n146) 24, .blk p162 (wl n192) 24, .blk p208 (wl n206) 24] w221 := H214.callNil H223
              refine ⟨_, rfl, [7, 8, 17, 66, 69], [(7, pt p7 0), (8, pt p11 0), (17, pt p208 0), (66, .bool false), (69, .int .i64 (cmpN n206 m))], by kernel_rfl, ?_⟩
              refine GL.run (j := 10) 2 [7, 8, 17, 71] [(7, pt p7 0), (8, pt p11 0), (17, pt p208 0), (71, .bool (decide (0 < (cmpN n206 m))))] (by kernel_rfl) rfl ?_
              refine GL.k rfl hK218 (fun _ _ h => h) ?_
              cases hb224 : (decide (0 < (cmpN n206 m)))
              · skip
                have hb224f := of_decide_eq_false hb224
                have hcm : ¬ m < n206 := fun h => hb224f (cmp_gt0.2 h)
                refine G.no rfl ?_
                refine G.skipK hK216 (fun _ _ h => h) ?_
                refine G.seqK fun K225 hK226 => ?_
                refine G.seqK fun K227 hK228 => ?_
                refine G.region ?_
                refine GL.sem (j := 1) (H222.ldA (o := 0) (ty := 24) (m := 4) (sub := (wl n206)) 7 rfl (by kernel_rfl) rfl rfl) [8, 17, 73] [(8, pt p11 0), (17, pt p208 0), (73, wv n206)] (by kernel_rfl) (by kernel_rfl) rfl ?_
                refine GL.run (j := 2) 1 [8, 17, 73, 74] [(8, pt p11 0), (17, pt p208 0), (73, wv n206), (74, .agg #[.int .u64 0, .int .u64 0, .int .u64 0, .int .u64 0])] (by kernel_rfl) rfl ?_
                refine GL.sem (j := 3) (run_arr_eql (P := Try.prog) (t := 24) (n := 4) (k := .u64) (x := (.tmp 73)) (y := (.tmp 74)) (by kernel_rfl) [(wd n206 0 : Int), (wd n206 1 : Int), (wd n206 2 : Int), (wd n206 3 : Int)] [0, 0, 0, 0] rfl rfl _) [8, 17, 75] [(8, pt p11 0), (17, pt p208 0), (75, .bool (decide (([(wd n206 0 : Int), (wd n206 1 : Int), (wd n206 2 : Int), (wd n206 3 : Int)] : List Int) = [0, 0, 0, 0])))] (by kernel_rfl) (by kernel_rfl) rfl ?_
                refine GL.k rfl hK228 (fun _ _ h => h) ?_
                cases hb229 : (decide (([(wd n206 0 : Int), (wd n206 1 : Int), (wd n206 2 : Int), (wd n206 3 : Int)] : List Int) = [0, 0, 0, 0]))
                · skip
                  have hb229f := of_decide_eq_false hb229
                  have hz : n206 ≠ 0 := fun h => hb229f ((wv_eq (y := 0) n206l (by decide)).2 h)
                  refine G.no rfl ?_
                  refine G.skipK hK226 (fun _ _ h => h) ?_
                  refine G.seqK fun K230 hK231 => ?_
                  refine G.region ?_
                  refine GL.sem (j := 1) (H222.ldA (o := 0) (ty := 24) (m := 4) (sub := (wl n206)) 7 rfl (by kernel_rfl) rfl rfl) [8, 77] [(8, pt p11 0), (77, wv n206)] (by kernel_rfl) (by kernel_rfl) rfl ?_
                  obtain ⟨w232, r233, H234⟩ := H222.stA (P := Try.prog) (o := 0) (vs := (wl n206)) (ty := 24) (m := 4) 2 rfl (by kernel_rfl) rfl (by first | decide | simp) (wl_one _)
                  have H234 : Hp w [] [.blk p3 (wl t) 24, .blk p7 (wl m) 24, .blk p11 (wl n206) 24, .blk p74 (wl (t / d)) 24, .blk p106 (wl (t % d)) 24, .blk p148 (wl n146) 24, .blk p162 (wl n192) 24, .blk p208 (wl n206) 24] w232 := H234
                  refine GL.semU (j := 2) r233 [8] [(8, pt p11 0)] (by kernel_rfl) rfl rfl rfl ?_
                  refine GL.run (j := 3) 1 [8, 9] [(8, pt p11 0), (9, .int .i64 0)] (by kernel_rfl) rfl ?_
                  refine GL.k rfl hK231 (fun _ _ h => h) ?_
                  refine G.ret ?_
                  intro F_ hF_ hM_
                  refine hRet _ _ (bodyPost_2 rfl (RV.cell rfl (H234.ldA (o := 0) (ty := 24) (m := 4) (sub := (wl n206)) 2 rfl (by kernel_rfl) rfl rfl)) (RV.tmp rfl) ?_ F_ hF_ hM_)
                  have c2 : scE d m = 0 := by rw [scE, if_neg hd0, if_neg hm0]
                  have hs := scale_exact (t := t) (u := u) hd0
                  have hr : t % d * u < K4 := prod_lt (Nat.lt_trans (Nat.mod_lt _ (by omega)) hd) hu
                  have h2 : n160 = t % d * u := by rw [hn161]; exact Nat.mod_eq_of_lt hr
                  have h3 : n192 = t % d * u / d := by rw [hn193, h2]
                  rw [← h3] at hs
                  have h1 : n146 = t / d * u := by rw [hn147]; exact Nat.mod_eq_of_lt (by omega)
                  have h5 : n206 = n146 + n192 := by rw [hn207]; exact Nat.mod_eq_of_lt (by omega)
                  have c1 : scR t u d m = n206 := by
                    rw [scR, if_neg (by omega), scV]
                    rw [if_neg (by omega), if_neg (by omega)]
                    omega
                  rw [c1, c2]
                  exact ⟨rfl, H234.sub (List.nil_sublist _)⟩
                · skip
                  have hb229f := of_decide_eq_true hb229
                  have hz : n206 = 0 := (wv_eq (y := 0) n206l (by decide)).1 hb229f
                  refine G.yes rfl ?_
                  refine G.seqK fun K235 hK236 => ?_
                  refine G.region ?_
                  refine GL.call (j := 1) (Of_calls 1 (by decide) w221) (by kernel_rfl) rfl (fun e_ w237 hR => ?_)
                  obtain ⟨he_, H239⟩ := hR
                  subst he_
                  have H238 : Hp w [] [.blk p3 (wl t) 24, .blk p7 (wl m) 24, .blk p11 z4 24, .blk p74 (wl (t / d)) 24, .blk p106 (wl (t % d)) 24, .blk p148 (wl n146) 24, .blk p162 (wl n192) 24, .blk p208 (wl n206) 24] w237 := H222.callNil H239
                  refine ⟨_, rfl, [8, 76], [(8, pt p11 0), (76, wv 1)], by kernel_rfl, ?_⟩
                  obtain ⟨w240, r241, H242⟩ := H238.stA (P := Try.prog) (o := 0) (vs := (wl 1)) (ty := 24) (m := 4) 2 rfl (by kernel_rfl) rfl (by first | decide | simp) (wl_one _)
                  have H242 : Hp w [] [.blk p3 (wl t) 24, .blk p7 (wl m) 24, .blk p11 (wl 1) 24, .blk p74 (wl (t / d)) 24, .blk p106 (wl (t % d)) 24, .blk p148 (wl n146) 24, .blk p162 (wl n192) 24, .blk p208 (wl n206) 24] w240 := H242
                  refine GL.semU (j := 2) r241 [8] [(8, pt p11 0)] (by kernel_rfl) rfl rfl rfl ?_
                  refine GL.run (j := 3) 1 [8, 9] [(8, pt p11 0), (9, .int .i64 0)] (by kernel_rfl) rfl ?_
                  refine GL.k rfl hK236 (fun _ _ h => h) ?_
                  refine G.ret ?_
                  intro F_ hF_ hM_
                  refine hRet _ _ (bodyPost_2 rfl (RV.cell rfl (H242.ldA (o := 0) (ty := 24) (m := 4) (sub := (wl 1)) 2 rfl (by kernel_rfl) rfl rfl)) (RV.tmp rfl) ?_ F_ hF_ hM_)
                  have c2 : scE d m = 0 := by rw [scE, if_neg hd0, if_neg hm0]
                  have hs := scale_exact (t := t) (u := u) hd0
                  have hr : t % d * u < K4 := prod_lt (Nat.lt_trans (Nat.mod_lt _ (by omega)) hd) hu
                  have h2 : n160 = t % d * u := by rw [hn161]; exact Nat.mod_eq_of_lt hr
                  have h3 : n192 = t % d * u / d := by rw [hn193, h2]
                  rw [← h3] at hs
                  have h1 : n146 = t / d * u := by rw [hn147]; exact Nat.mod_eq_of_lt (by omega)
                  have h5 : n206 = n146 + n192 := by rw [hn207]; exact Nat.mod_eq_of_lt (by omega)
                  have c1 : scR t u d m = 1 := by
                    rw [scR, if_neg (by omega), scV]
                    rw [if_neg (by omega), if_pos (by omega)]
                  rw [c1, c2]
                  exact ⟨rfl, H242.sub (List.nil_sublist _)⟩
              · skip
                have hb224f := of_decide_eq_true hb224
                have hcm : m < n206 := cmp_gt0.1 hb224f
                refine G.yes rfl ?_
                refine G.seqK fun K243 hK244 => ?_
                refine G.region ?_
                refine GL.sem (j := 1) (H222.ldA (o := 0) (ty := 24) (m := 4) (sub := (wl m)) 1 rfl (by kernel_rfl) rfl rfl) [8, 72] [(8, pt p11 0), (72, wv m)] (by kernel_rfl) (by kernel_rfl) rfl ?_
                obtain ⟨w245, r246, H247⟩ := H222.stA (P := Try.prog) (o := 0) (vs := (wl m)) (ty := 24) (m := 4) 2 rfl (by kernel_rfl) rfl (by first | decide | simp) (wl_one _)
                have H247 : Hp w [] [.blk p3 (wl t) 24, .blk p7 (wl m) 24, .blk p11 (wl m) 24, .blk p74 (wl (t / d)) 24, .blk p106 (wl (t % d)) 24, .blk p148 (wl n146) 24, .blk p162 (wl n192) 24, .blk p208 (wl n206) 24] w245 := H247
                refine GL.semU (j := 2) r246 [8] [(8, pt p11 0)] (by kernel_rfl) rfl rfl rfl ?_
                refine GL.run (j := 3) 1 [8, 9] [(8, pt p11 0), (9, .int .i64 0)] (by kernel_rfl) rfl ?_
                refine GL.k rfl hK244 (fun _ _ h => h) ?_
                refine G.ret ?_
                intro F_ hF_ hM_
                refine hRet _ _ (bodyPost_2 rfl (RV.cell rfl (H247.ldA (o := 0) (ty := 24) (m := 4) (sub := (wl m)) 2 rfl (by kernel_rfl) rfl rfl)) (RV.tmp rfl) ?_ F_ hF_ hM_)
                have c2 : scE d m = 0 := by rw [scE, if_neg hd0, if_neg hm0]
                have hs := scale_exact (t := t) (u := u) hd0
                have hr : t % d * u < K4 := prod_lt (Nat.lt_trans (Nat.mod_lt _ (by omega)) hd) hu
                have h2 : n160 = t % d * u := by rw [hn161]; exact Nat.mod_eq_of_lt hr
                have h3 : n192 = t % d * u / d := by rw [hn193, h2]
                rw [← h3] at hs
                have h1 : n146 = t / d * u := by rw [hn147]; exact Nat.mod_eq_of_lt (by omega)
                have h5 : n206 = n146 + n192 := by rw [hn207]; exact Nat.mod_eq_of_lt (by omega)
                have c1 : scR t u d m = m := by
                  rw [scR, if_neg (by omega), scV]
                  rw [if_pos (by omega)]
                rw [c1, c2]
                exact ⟨rfl, H247.sub (List.nil_sublist _)⟩
            · skip
              have hb220f := of_decide_eq_true hb220
              refine GL.run (j := 10) 5 [7, 8, 17, 71] [(7, pt p7 0), (8, pt p11 0), (17, pt p208 0), (71, .bool true)] (by kernel_rfl) rfl ?_
              refine GL.k rfl hK218 (fun _ _ h => h) ?_
              refine G.yes rfl ?_
              refine G.seqK fun K248 hK249 => ?_
              refine G.region ?_
              refine GL.sem (j := 1) (H214.ldA (o := 0) (ty := 24) (m := 4) (sub := (wl m)) 1 rfl (by kernel_rfl) rfl rfl) [8, 72] [(8, pt p11 0), (72, wv m)] (by kernel_rfl) (by kernel_rfl) rfl ?_
              obtain ⟨w250, r251, H252⟩ := H214.stA (P := Try.prog) (o := 0) (vs := (wl m)) (ty := 24) (m := 4) 2 rfl (by kernel_rfl) rfl (by first | decide | simp) (wl_one _)
              have H252 : Hp w [] [.blk p3 (wl t) 24, .blk p7 (wl m) 24, .blk p11 (wl m) 24, .blk p74 (wl (t / d)) 24, .blk p106 (wl (t % d)) 24, .blk p148 (wl n146) 24, .blk p162 (wl n192) 24, .blk p208 (wl n206) 24] w250 := H252
              refine GL.semU (j := 2) r251 [8] [(8, pt p11 0)] (by kernel_rfl) rfl rfl rfl ?_
              refine GL.run (j := 3) 1 [8, 9] [(8, pt p11 0), (9, .int .i64 0)] (by kernel_rfl) rfl ?_
              refine GL.k rfl hK249 (fun _ _ h => h) ?_
              refine G.ret ?_
              intro F_ hF_ hM_
              refine hRet _ _ (bodyPost_2 rfl (RV.cell rfl (H252.ldA (o := 0) (ty := 24) (m := 4) (sub := (wl m)) 2 rfl (by kernel_rfl) rfl rfl)) (RV.tmp rfl) ?_ F_ hF_ hM_)
              have c2 : scE d m = 0 := by rw [scE, if_neg hd0, if_neg hm0]
              have hs := scale_exact (t := t) (u := u) hd0
              have hr : t % d * u < K4 := prod_lt (Nat.lt_trans (Nat.mod_lt _ (by omega)) hd) hu
              have h2 : n160 = t % d * u := by rw [hn161]; exact Nat.mod_eq_of_lt hr
              have h3 : n192 = t % d * u / d := by rw [hn193, h2]
              rw [← h3] at hs
              have h1 : n146 = t / d * u := by rw [hn147]; exact Nat.mod_eq_of_lt (by omega)
              have c1 : scR t u d m = m := by
                rw [scR, if_neg (by omega), scV]
                rw [if_pos (by omega)]
              rw [c1, c2]
              exact ⟨rfl, H252.sub (List.nil_sublist _)⟩
          · skip
            have hb219f := of_decide_eq_true hb219
            refine GL.run (j := 10) 8 [7, 8, 17, 71] [(7, pt p7 0), (8, pt p11 0), (17, pt p208 0), (71, .bool true)] (by kernel_rfl) rfl ?_
            refine GL.k rfl hK218 (fun _ _ h => h) ?_
            refine G.yes rfl ?_
            refine G.seqK fun K253 hK254 => ?_
            refine G.region ?_
            refine GL.sem (j := 1) (H214.ldA (o := 0) (ty := 24) (m := 4) (sub := (wl m)) 1 rfl (by kernel_rfl) rfl rfl) [8, 72] [(8, pt p11 0), (72, wv m)] (by kernel_rfl) (by kernel_rfl) rfl ?_
            obtain ⟨w255, r256, H257⟩ := H214.stA (P := Try.prog) (o := 0) (vs := (wl m)) (ty := 24) (m := 4) 2 rfl (by kernel_rfl) rfl (by first | decide | simp) (wl_one _)
            have H257 : Hp w [] [.blk p3 (wl t) 24, .blk p7 (wl m) 24, .blk p11 (wl m) 24, .blk p74 (wl (t / d)) 24, .blk p106 (wl (t % d)) 24, .blk p148 (wl n146) 24, .blk p162 (wl n192) 24, .blk p208 (wl n206) 24] w255 := H257
            refine GL.semU (j := 2) r256 [8] [(8, pt p11 0)] (by kernel_rfl) rfl rfl rfl ?_
            refine GL.run (j := 3) 1 [8, 9] [(8, pt p11 0), (9, .int .i64 0)] (by kernel_rfl) rfl ?_
            refine GL.k rfl hK254 (fun _ _ h => h) ?_
            refine G.ret ?_
            intro F_ hF_ hM_
            refine hRet _ _ (bodyPost_2 rfl (RV.cell rfl (H257.ldA (o := 0) (ty := 24) (m := 4) (sub := (wl m)) 2 rfl (by kernel_rfl) rfl rfl)) (RV.tmp rfl) ?_ F_ hF_ hM_)
            have c2 : scE d m = 0 := by rw [scE, if_neg hd0, if_neg hm0]
            have hs := scale_exact (t := t) (u := u) hd0
            have hr : t % d * u < K4 := prod_lt (Nat.lt_trans (Nat.mod_lt _ (by omega)) hd) hu
            have h2 : n160 = t % d * u := by rw [hn161]; exact Nat.mod_eq_of_lt hr
            have h3 : n192 = t % d * u / d := by rw [hn193, h2]
            rw [← h3] at hs
            have c1 : scR t u d m = m := by
              rw [scR, if_neg (by omega), scV]
              rw [if_pos (by omega)]
            rw [c1, c2]
            exact ⟨rfl, H257.sub (List.nil_sublist _)⟩
        have st185 : ∀ (wD_ : World), Hp w [] [.blk p3 (wl t) 24, .blk p7 (wl m) 24, .blk p11 z4 24, .blk p74 (wl (t / d)) 24, .blk p106 (wl (t % d)) 24, .blk p148 (wl n146) 24, .blk p162 (wl n160) 24] wD_ → X [1, 0] [(7, pt p7 0), (8, pt p11 0), (13, pt p148 0), (14, .bool (decide (K4 ≤ (t / d) * u))), (15, pt p162 0), (49, wv n160), (50, .int .u64 (d : Int))] wD_ := by
          intro wD_ HD_
          rw [hX]
          have hS258 : Hp w [] [.blk p3 (wl t) 24, .blk p7 (wl m) 24, .blk p11 z4 24, .blk p74 (wl (t / d)) 24, .blk p106 (wl (t % d)) 24, .blk p148 (wl n146) 24] wD_ := HD_.sub (List.Sublist.cons_cons _ (List.Sublist.cons_cons _ (List.Sublist.cons_cons _ (List.Sublist.cons_cons _ (List.Sublist.cons_cons _ (List.Sublist.cons_cons _ (List.Sublist.cons _ (List.Sublist.slnil))))))))
          refine GP.all1 2 (by kernel_rfl) ?_
          · skip
            have hS259 : Hp w [] [.blk p3 (wl t) 24, .blk p7 (wl m) 24, .blk p11 z4 24, .blk p74 (wl (t / d)) 24, .blk p106 (wl (t % d)) 24, .blk p148 (wl n146) 24] wD_ := HD_.sub (List.Sublist.cons_cons _ (List.Sublist.cons_cons _ (List.Sublist.cons_cons _ (List.Sublist.cons_cons _ (List.Sublist.cons_cons _ (List.Sublist.cons_cons _ (List.Sublist.cons _ (List.Sublist.slnil))))))))
            refine GO.call (Of_calls d hd wD_) (by kernel_rfl) (fun e_ w260 hR => ?_)
            obtain ⟨rfl, H262⟩ := hR
            have H261 : Hp w [] [.blk p3 (wl t) 24, .blk p7 (wl m) 24, .blk p11 z4 24, .blk p74 (wl (t / d)) 24, .blk p106 (wl (t % d)) 24, .blk p148 (wl n146) 24, .blk p162 (wl n160) 24] w260 := HD_.callNil H262
            have hS263 : Hp w [] [.blk p3 (wl t) 24, .blk p7 (wl m) 24, .blk p11 z4 24, .blk p74 (wl (t / d)) 24, .blk p106 (wl (t % d)) 24, .blk p148 (wl n146) 24] w260 := H261.sub (List.Sublist.cons_cons _ (List.Sublist.cons_cons _ (List.Sublist.cons_cons _ (List.Sublist.cons_cons _ (List.Sublist.cons_cons _ (List.Sublist.cons_cons _ (List.Sublist.cons _ (List.Sublist.slnil))))))))
            refine ⟨_, rfl, hS263, [7, 8, 13, 14, 15, 49, 51], [(7, pt p7 0), (8, pt p11 0), (13, pt p148 0), (14, .bool (decide (K4 ≤ (t / d) * u))), (15, pt p162 0), (49, wv n160), (51, wv d)], by kernel_rfl, ?_⟩
            refine GP.perm [1, 0, 2] (by kernel_rfl) rfl ?_
            rw [← hX]
            exact st187 _ H261
        have st186 : ∀ (wD_ : World), Hp w [] [.blk p3 (wl t) 24, .blk p7 (wl m) 24, .blk p11 z4 24, .blk p74 (wl (t / d)) 24, .blk p106 (wl (t % d)) 24, .blk p148 (wl n146) 24, .blk p162 (wl n160) 24] wD_ → X [1, 2] [(7, pt p7 0), (8, pt p11 0), (13, pt p148 0), (14, .bool (decide (K4 ≤ (t / d) * u))), (15, pt p162 0), (51, wv d)] wD_ := by
          intro wD_ HD_
          rw [hX]
          have hS264 : Hp w [] [.blk p3 (wl t) 24, .blk p7 (wl m) 24, .blk p11 z4 24, .blk p74 (wl (t / d)) 24, .blk p106 (wl (t % d)) 24, .blk p148 (wl n146) 24] wD_ := HD_.sub (List.Sublist.cons_cons _ (List.Sublist.cons_cons _ (List.Sublist.cons_cons _ (List.Sublist.cons_cons _ (List.Sublist.cons_cons _ (List.Sublist.cons_cons _ (List.Sublist.cons _ (List.Sublist.slnil))))))))
          refine GP.all1 0 (by kernel_rfl) ?_
          · skip
            have hS265 : Hp w [] [.blk p3 (wl t) 24, .blk p7 (wl m) 24, .blk p11 z4 24, .blk p74 (wl (t / d)) 24, .blk p106 (wl (t % d)) 24, .blk p148 (wl n146) 24] wD_ := HD_.sub (List.Sublist.cons_cons _ (List.Sublist.cons_cons _ (List.Sublist.cons_cons _ (List.Sublist.cons_cons _ (List.Sublist.cons_cons _ (List.Sublist.cons_cons _ (List.Sublist.cons _ (List.Sublist.slnil))))))))
            have hS266 : Hp w [] [.blk p3 (wl t) 24, .blk p7 (wl m) 24, .blk p11 z4 24, .blk p74 (wl (t / d)) 24, .blk p106 (wl (t % d)) 24, .blk p148 (wl n146) 24] wD_ := HD_.sub (List.Sublist.cons_cons _ (List.Sublist.cons_cons _ (List.Sublist.cons_cons _ (List.Sublist.cons_cons _ (List.Sublist.cons_cons _ (List.Sublist.cons_cons _ (List.Sublist.cons _ (List.Sublist.slnil))))))))
            refine GO.made (HD_.ldA (o := 0) (ty := 24) (m := 4) (sub := (wl n160)) 6 rfl (by kernel_rfl) rfl rfl) [7, 8, 13, 14, 15, 49, 51] [(7, pt p7 0), (8, pt p11 0), (13, pt p148 0), (14, .bool (decide (K4 ≤ (t / d) * u))), (15, pt p162 0), (49, wv n160), (51, wv d)] (by kernel_rfl) (by kernel_rfl) hS266 ?_
            refine GP.perm [1, 0, 2] (by kernel_rfl) rfl ?_
            rw [← hX]
            exact st187 _ HD_
        have st184 : ∀ (wD_ : World), Hp w [] [.blk p3 (wl t) 24, .blk p7 (wl m) 24, .blk p11 z4 24, .blk p74 (wl (t / d)) 24, .blk p106 (wl (t % d)) 24, .blk p148 (wl n146) 24, .blk p162 (wl n160) 24] wD_ → X [1] [(7, pt p7 0), (8, pt p11 0), (13, pt p148 0), (14, .bool (decide (K4 ≤ (t / d) * u))), (15, pt p162 0), (50, .int .u64 (d : Int))] wD_ := by
          intro wD_ HD_
          rw [hX]
          have hS267 : Hp w [] [.blk p3 (wl t) 24, .blk p7 (wl m) 24, .blk p11 z4 24, .blk p74 (wl (t / d)) 24, .blk p106 (wl (t % d)) 24, .blk p148 (wl n146) 24] wD_ := HD_.sub (List.Sublist.cons_cons _ (List.Sublist.cons_cons _ (List.Sublist.cons_cons _ (List.Sublist.cons_cons _ (List.Sublist.cons_cons _ (List.Sublist.cons_cons _ (List.Sublist.cons _ (List.Sublist.slnil))))))))
          refine GP.all2 0 2 (by kernel_rfl) ?_ ?_
          · skip
            have hS268 : Hp w [] [.blk p3 (wl t) 24, .blk p7 (wl m) 24, .blk p11 z4 24, .blk p74 (wl (t / d)) 24, .blk p106 (wl (t % d)) 24, .blk p148 (wl n146) 24] wD_ := HD_.sub (List.Sublist.cons_cons _ (List.Sublist.cons_cons _ (List.Sublist.cons_cons _ (List.Sublist.cons_cons _ (List.Sublist.cons_cons _ (List.Sublist.cons_cons _ (List.Sublist.cons _ (List.Sublist.slnil))))))))
            have hS269 : Hp w [] [.blk p3 (wl t) 24, .blk p7 (wl m) 24, .blk p11 z4 24, .blk p74 (wl (t / d)) 24, .blk p106 (wl (t % d)) 24, .blk p148 (wl n146) 24] wD_ := HD_.sub (List.Sublist.cons_cons _ (List.Sublist.cons_cons _ (List.Sublist.cons_cons _ (List.Sublist.cons_cons _ (List.Sublist.cons_cons _ (List.Sublist.cons_cons _ (List.Sublist.cons _ (List.Sublist.slnil))))))))
            refine GO.made (HD_.ldA (o := 0) (ty := 24) (m := 4) (sub := (wl n160)) 6 rfl (by kernel_rfl) rfl rfl) [7, 8, 13, 14, 15, 49, 50] [(7, pt p7 0), (8, pt p11 0), (13, pt p148 0), (14, .bool (decide (K4 ≤ (t / d) * u))), (15, pt p162 0), (49, wv n160), (50, .int .u64 (d : Int))] (by kernel_rfl) (by kernel_rfl) hS269 ?_
            refine GP.perm [1, 0] (by kernel_rfl) rfl ?_
            rw [← hX]
            exact st185 _ HD_
          · skip
            have hS270 : Hp w [] [.blk p3 (wl t) 24, .blk p7 (wl m) 24, .blk p11 z4 24, .blk p74 (wl (t / d)) 24, .blk p106 (wl (t % d)) 24, .blk p148 (wl n146) 24] wD_ := HD_.sub (List.Sublist.cons_cons _ (List.Sublist.cons_cons _ (List.Sublist.cons_cons _ (List.Sublist.cons_cons _ (List.Sublist.cons_cons _ (List.Sublist.cons_cons _ (List.Sublist.cons _ (List.Sublist.slnil))))))))
            refine GO.call (Of_calls d hd wD_) (by kernel_rfl) (fun e_ w271 hR => ?_)
            obtain ⟨rfl, H273⟩ := hR
            have H272 : Hp w [] [.blk p3 (wl t) 24, .blk p7 (wl m) 24, .blk p11 z4 24, .blk p74 (wl (t / d)) 24, .blk p106 (wl (t % d)) 24, .blk p148 (wl n146) 24, .blk p162 (wl n160) 24] w271 := HD_.callNil H273
            have hS274 : Hp w [] [.blk p3 (wl t) 24, .blk p7 (wl m) 24, .blk p11 z4 24, .blk p74 (wl (t / d)) 24, .blk p106 (wl (t % d)) 24, .blk p148 (wl n146) 24] w271 := H272.sub (List.Sublist.cons_cons _ (List.Sublist.cons_cons _ (List.Sublist.cons_cons _ (List.Sublist.cons_cons _ (List.Sublist.cons_cons _ (List.Sublist.cons_cons _ (List.Sublist.cons _ (List.Sublist.slnil))))))))
            refine ⟨_, rfl, hS274, [7, 8, 13, 14, 15, 51], [(7, pt p7 0), (8, pt p11 0), (13, pt p148 0), (14, .bool (decide (K4 ≤ (t / d) * u))), (15, pt p162 0), (51, wv d)], by kernel_rfl, ?_⟩
            refine GP.perm [1, 2] (by kernel_rfl) rfl ?_
            rw [← hX]
            exact st186 _ H272
        exact st184 _ H171
      have st128 : ∀ (wD_ : World) (p74 : Nat), Hp w [] [.blk p3 (wl t) 24, .blk p7 (wl m) 24, .blk p11 z4 24, .blk p74 z4 24] wD_ → X [0, 1, 2, 3, 4, 5, 6, 7, 8] [(1, .int .u64 (u : Int)), (2, .int .u64 (d : Int)), (7, pt p7 0), (8, pt p11 0), (10, pt p74 0), (33, wv (t / d)), (34, wv (t % d)), (35, .int .i64 0)] wD_ := by
        intro wD_ p74 HD_
        rw [hX]
        have hS275 : Hp w [] [.blk p3 (wl t) 24, .blk p7 (wl m) 24, .blk p11 z4 24] wD_ := HD_.sub (List.Sublist.cons_cons _ (List.Sublist.cons_cons _ (List.Sublist.cons_cons _ (List.Sublist.cons _ (List.Sublist.slnil)))))
        refine GP.all1 9 (by kernel_rfl) ?_
        · skip
          have hS276 : Hp w [] [.blk p3 (wl t) 24, .blk p7 (wl m) 24, .blk p11 z4 24] wD_ := HD_.sub (List.Sublist.cons_cons _ (List.Sublist.cons_cons _ (List.Sublist.cons_cons _ (List.Sublist.cons _ (List.Sublist.slnil)))))
          obtain ⟨p277, w278, r279, H280⟩ := HD_.alloc (P := Try.prog) 24 z4 (by kernel_rfl)
          have H280 : Hp w [] [.blk p3 (wl t) 24, .blk p7 (wl m) 24, .blk p11 z4 24, .blk p74 z4 24, .blk p277 z4 24] w278 := H280
          have hS281 : Hp w [] [.blk p3 (wl t) 24, .blk p7 (wl m) 24, .blk p11 z4 24] w278 := H280.sub (List.Sublist.cons_cons _ (List.Sublist.cons_cons _ (List.Sublist.cons_cons _ (List.Sublist.cons _ (List.Sublist.cons _ (List.Sublist.slnil))))))
          refine GO.made r279 [1, 2, 7, 8, 10, 11, 33, 34, 35] [(1, .int .u64 (u : Int)), (2, .int .u64 (d : Int)), (7, pt p7 0), (8, pt p11 0), (10, pt p74 0), (11, pt p277 0), (33, wv (t / d)), (34, wv (t % d)), (35, .int .i64 0)] (by kernel_rfl) (by kernel_rfl) hS281 ?_
          refine GP.perm [0, 1, 2, 3, 4, 5, 6, 7, 8, 9] (by kernel_rfl) rfl ?_
          rw [← hX]
          exact st131 _ p74 p277 H280
      have st129 : ∀ (wD_ : World) (p79 : Nat), Hp w [] [.blk p3 (wl t) 24, .blk p7 (wl m) 24, .blk p11 z4 24, .blk p79 z4 24] wD_ → X [0, 1, 2, 3, 4, 5, 6, 7, 9] [(1, .int .u64 (u : Int)), (2, .int .u64 (d : Int)), (7, pt p7 0), (8, pt p11 0), (11, pt p79 0), (33, wv (t / d)), (34, wv (t % d)), (35, .int .i64 0)] wD_ := by
        intro wD_ p79 HD_
        rw [hX]
        have hS282 : Hp w [] [.blk p3 (wl t) 24, .blk p7 (wl m) 24, .blk p11 z4 24] wD_ := HD_.sub (List.Sublist.cons_cons _ (List.Sublist.cons_cons _ (List.Sublist.cons_cons _ (List.Sublist.cons _ (List.Sublist.slnil)))))
        refine GP.all1 8 (by kernel_rfl) ?_
        · skip
          have hS283 : Hp w [] [.blk p3 (wl t) 24, .blk p7 (wl m) 24, .blk p11 z4 24] wD_ := HD_.sub (List.Sublist.cons_cons _ (List.Sublist.cons_cons _ (List.Sublist.cons_cons _ (List.Sublist.cons _ (List.Sublist.slnil)))))
          obtain ⟨p284, w285, r286, H287⟩ := HD_.alloc (P := Try.prog) 24 z4 (by kernel_rfl)
          have H287 : Hp w [] [.blk p3 (wl t) 24, .blk p7 (wl m) 24, .blk p11 z4 24, .blk p79 z4 24, .blk p284 z4 24] w285 := H287
          have hS288 : Hp w [] [.blk p3 (wl t) 24, .blk p7 (wl m) 24, .blk p11 z4 24] w285 := H287.sub (List.Sublist.cons_cons _ (List.Sublist.cons_cons _ (List.Sublist.cons_cons _ (List.Sublist.cons _ (List.Sublist.cons _ (List.Sublist.slnil))))))
          refine GO.made r286 [1, 2, 7, 8, 10, 11, 33, 34, 35] [(1, .int .u64 (u : Int)), (2, .int .u64 (d : Int)), (7, pt p7 0), (8, pt p11 0), (10, pt p284 0), (11, pt p79 0), (33, wv (t / d)), (34, wv (t % d)), (35, .int .i64 0)] (by kernel_rfl) (by kernel_rfl) hS288 ?_
          have H289 := (Hp.reorder (L' := [.blk p3 (wl t) 24, .blk p7 (wl m) 24, .blk p11 z4 24, .blk p284 z4 24, .blk p79 z4 24]) H287 (List.Perm.cons _ (List.Perm.cons _ (List.Perm.cons _ (List.Perm.trans (List.Perm.swap _ _ _) (List.Perm.refl _))))))
          refine GP.perm [0, 1, 2, 3, 4, 5, 6, 7, 8, 9] (by kernel_rfl) rfl ?_
          rw [← hX]
          exact st131 _ p284 p79 H289
      have st130 : ∀ (wD_ : World) (p46 : Nat) (p88 : Nat), Hp w [] [.blk p3 (wl t) 24, .blk p7 (wl m) 24, .blk p11 z4 24, .blk p46 z4 24, .blk p88 z4 24] wD_ → X [0, 1, 2, 8, 9] [(1, .int .u64 (u : Int)), (2, .int .u64 (d : Int)), (7, pt p7 0), (8, pt p11 0), (10, pt p46 0), (11, pt p88 0), (29, wv t), (31, wv d)] wD_ := by
        intro wD_ p46 p88 HD_
        rw [hX]
        have hS290 : Hp w [] [.blk p3 (wl t) 24, .blk p7 (wl m) 24, .blk p11 z4 24] wD_ := HD_.sub (List.Sublist.cons_cons _ (List.Sublist.cons_cons _ (List.Sublist.cons_cons _ (List.Sublist.cons _ (List.Sublist.cons _ (List.Sublist.slnil))))))
        refine GP.all1 3 (by kernel_rfl) ?_
        · skip
          have hS291 : Hp w [] [.blk p3 (wl t) 24, .blk p7 (wl m) 24, .blk p11 z4 24] wD_ := HD_.sub (List.Sublist.cons_cons _ (List.Sublist.cons_cons _ (List.Sublist.cons_cons _ (List.Sublist.cons _ (List.Sublist.cons _ (List.Sublist.slnil))))))
          refine GO.call (Div_calls t d ht (Nat.lt_trans hd (by decide)) (hd0) wD_) (by kernel_rfl) (fun e_ w292 hR => ?_)
          obtain ⟨rfl, H294⟩ := hR
          have H293 : Hp w [] [.blk p3 (wl t) 24, .blk p7 (wl m) 24, .blk p11 z4 24, .blk p46 z4 24, .blk p88 z4 24] w292 := HD_.callNil H294
          have hS295 : Hp w [] [.blk p3 (wl t) 24, .blk p7 (wl m) 24, .blk p11 z4 24] w292 := H293.sub (List.Sublist.cons_cons _ (List.Sublist.cons_cons _ (List.Sublist.cons_cons _ (List.Sublist.cons _ (List.Sublist.cons _ (List.Sublist.slnil))))))
          refine ⟨_, rfl, hS295, [1, 2, 7, 8, 10, 11, 32], [(1, .int .u64 (u : Int)), (2, .int .u64 (d : Int)), (7, pt p7 0), (8, pt p11 0), (10, pt p46 0), (11, pt p88 0), (32, .tuple #[wv (t / d), wv (t % d), .int .i64 0])], by kernel_rfl, ?_⟩
          refine GP.run [4, 5, 6, 7] [1, 2, 7, 8, 10, 11, 33, 34, 35] [(1, .int .u64 (u : Int)), (2, .int .u64 (d : Int)), (7, pt p7 0), (8, pt p11 0), (10, pt p46 0), (11, pt p88 0), (33, wv (t / d)), (34, wv (t % d)), (35, .int .i64 0)] [0, 1, 2, 8, 9, 3, 4, 5, 6, 7] (by kernel_rfl) rfl hS295 ?_
          refine GP.perm [0, 1, 2, 3, 4, 5, 6, 7, 8, 9] (by kernel_rfl) rfl ?_
          rw [← hX]
          exact st131 _ p46 p88 H293
      have st124 : ∀ (wD_ : World), Hp w [] [.blk p3 (wl t) 24, .blk p7 (wl m) 24, .blk p11 z4 24] wD_ → X [0, 1, 2, 3, 4, 5, 6, 7] [(1, .int .u64 (u : Int)), (2, .int .u64 (d : Int)), (7, pt p7 0), (8, pt p11 0), (33, wv (t / d)), (34, wv (t % d)), (35, .int .i64 0)] wD_ := by
        intro wD_ HD_
        rw [hX]
        have hS296 : Hp w [] [.blk p3 (wl t) 24, .blk p7 (wl m) 24, .blk p11 z4 24] wD_ := HD_.sub (List.Sublist.cons_cons _ (List.Sublist.cons_cons _ (List.Sublist.cons_cons _ (List.Sublist.slnil))))
        refine GP.all2 8 9 (by kernel_rfl) ?_ ?_
        · skip
          have hS297 : Hp w [] [.blk p3 (wl t) 24, .blk p7 (wl m) 24, .blk p11 z4 24] wD_ := HD_.sub (List.Sublist.cons_cons _ (List.Sublist.cons_cons _ (List.Sublist.cons_cons _ (List.Sublist.slnil))))
          obtain ⟨p298, w299, r300, H301⟩ := HD_.alloc (P := Try.prog) 24 z4 (by kernel_rfl)
          have H301 : Hp w [] [.blk p3 (wl t) 24, .blk p7 (wl m) 24, .blk p11 z4 24, .blk p298 z4 24] w299 := H301
          have hS302 : Hp w [] [.blk p3 (wl t) 24, .blk p7 (wl m) 24, .blk p11 z4 24] w299 := H301.sub (List.Sublist.cons_cons _ (List.Sublist.cons_cons _ (List.Sublist.cons_cons _ (List.Sublist.cons _ (List.Sublist.slnil)))))
          refine GO.made r300 [1, 2, 7, 8, 10, 33, 34, 35] [(1, .int .u64 (u : Int)), (2, .int .u64 (d : Int)), (7, pt p7 0), (8, pt p11 0), (10, pt p298 0), (33, wv (t / d)), (34, wv (t % d)), (35, .int .i64 0)] (by kernel_rfl) (by kernel_rfl) hS302 ?_
          refine GP.perm [0, 1, 2, 3, 4, 5, 6, 7, 8] (by kernel_rfl) rfl ?_
          rw [← hX]
          exact st128 _ p298 H301
        · skip
          have hS303 : Hp w [] [.blk p3 (wl t) 24, .blk p7 (wl m) 24, .blk p11 z4 24] wD_ := HD_.sub (List.Sublist.cons_cons _ (List.Sublist.cons_cons _ (List.Sublist.cons_cons _ (List.Sublist.slnil))))
          obtain ⟨p304, w305, r306, H307⟩ := HD_.alloc (P := Try.prog) 24 z4 (by kernel_rfl)
          have H307 : Hp w [] [.blk p3 (wl t) 24, .blk p7 (wl m) 24, .blk p11 z4 24, .blk p304 z4 24] w305 := H307
          have hS308 : Hp w [] [.blk p3 (wl t) 24, .blk p7 (wl m) 24, .blk p11 z4 24] w305 := H307.sub (List.Sublist.cons_cons _ (List.Sublist.cons_cons _ (List.Sublist.cons_cons _ (List.Sublist.cons _ (List.Sublist.slnil)))))
          refine GO.made r306 [1, 2, 7, 8, 11, 33, 34, 35] [(1, .int .u64 (u : Int)), (2, .int .u64 (d : Int)), (7, pt p7 0), (8, pt p11 0), (11, pt p304 0), (33, wv (t / d)), (34, wv (t % d)), (35, .int .i64 0)] (by kernel_rfl) (by kernel_rfl) hS308 ?_
          refine GP.perm [0, 1, 2, 3, 4, 5, 6, 7, 9] (by kernel_rfl) rfl ?_
          rw [← hX]
          exact st129 _ p304 H307
      have st125 : ∀ (wD_ : World) (p46 : Nat), Hp w [] [.blk p3 (wl t) 24, .blk p7 (wl m) 24, .blk p11 z4 24, .blk p46 z4 24] wD_ → X [0, 1, 2, 8] [(1, .int .u64 (u : Int)), (2, .int .u64 (d : Int)), (7, pt p7 0), (8, pt p11 0), (10, pt p46 0), (29, wv t), (31, wv d)] wD_ := by
        intro wD_ p46 HD_
        rw [hX]
        have hS309 : Hp w [] [.blk p3 (wl t) 24, .blk p7 (wl m) 24, .blk p11 z4 24] wD_ := HD_.sub (List.Sublist.cons_cons _ (List.Sublist.cons_cons _ (List.Sublist.cons_cons _ (List.Sublist.cons _ (List.Sublist.slnil)))))
        refine GP.all2 3 9 (by kernel_rfl) ?_ ?_
        · skip
          have hS310 : Hp w [] [.blk p3 (wl t) 24, .blk p7 (wl m) 24, .blk p11 z4 24] wD_ := HD_.sub (List.Sublist.cons_cons _ (List.Sublist.cons_cons _ (List.Sublist.cons_cons _ (List.Sublist.cons _ (List.Sublist.slnil)))))
          refine GO.call (Div_calls t d ht (Nat.lt_trans hd (by decide)) (hd0) wD_) (by kernel_rfl) (fun e_ w311 hR => ?_)
          obtain ⟨rfl, H313⟩ := hR
          have H312 : Hp w [] [.blk p3 (wl t) 24, .blk p7 (wl m) 24, .blk p11 z4 24, .blk p46 z4 24] w311 := HD_.callNil H313
          have hS314 : Hp w [] [.blk p3 (wl t) 24, .blk p7 (wl m) 24, .blk p11 z4 24] w311 := H312.sub (List.Sublist.cons_cons _ (List.Sublist.cons_cons _ (List.Sublist.cons_cons _ (List.Sublist.cons _ (List.Sublist.slnil)))))
          refine ⟨_, rfl, hS314, [1, 2, 7, 8, 10, 32], [(1, .int .u64 (u : Int)), (2, .int .u64 (d : Int)), (7, pt p7 0), (8, pt p11 0), (10, pt p46 0), (32, .tuple #[wv (t / d), wv (t % d), .int .i64 0])], by kernel_rfl, ?_⟩
          refine GP.run [4, 5, 6, 7] [1, 2, 7, 8, 10, 33, 34, 35] [(1, .int .u64 (u : Int)), (2, .int .u64 (d : Int)), (7, pt p7 0), (8, pt p11 0), (10, pt p46 0), (33, wv (t / d)), (34, wv (t % d)), (35, .int .i64 0)] [0, 1, 2, 8, 3, 4, 5, 6, 7] (by kernel_rfl) rfl hS314 ?_
          refine GP.perm [0, 1, 2, 3, 4, 5, 6, 7, 8] (by kernel_rfl) rfl ?_
          rw [← hX]
          exact st128 _ p46 H312
        · skip
          have hS315 : Hp w [] [.blk p3 (wl t) 24, .blk p7 (wl m) 24, .blk p11 z4 24] wD_ := HD_.sub (List.Sublist.cons_cons _ (List.Sublist.cons_cons _ (List.Sublist.cons_cons _ (List.Sublist.cons _ (List.Sublist.slnil)))))
          obtain ⟨p316, w317, r318, H319⟩ := HD_.alloc (P := Try.prog) 24 z4 (by kernel_rfl)
          have H319 : Hp w [] [.blk p3 (wl t) 24, .blk p7 (wl m) 24, .blk p11 z4 24, .blk p46 z4 24, .blk p316 z4 24] w317 := H319
          have hS320 : Hp w [] [.blk p3 (wl t) 24, .blk p7 (wl m) 24, .blk p11 z4 24] w317 := H319.sub (List.Sublist.cons_cons _ (List.Sublist.cons_cons _ (List.Sublist.cons_cons _ (List.Sublist.cons _ (List.Sublist.cons _ (List.Sublist.slnil))))))
          refine GO.made r318 [1, 2, 7, 8, 10, 11, 29, 31] [(1, .int .u64 (u : Int)), (2, .int .u64 (d : Int)), (7, pt p7 0), (8, pt p11 0), (10, pt p46 0), (11, pt p316 0), (29, wv t), (31, wv d)] (by kernel_rfl) (by kernel_rfl) hS320 ?_
          refine GP.perm [0, 1, 2, 8, 9] (by kernel_rfl) rfl ?_
          rw [← hX]
          exact st130 _ p46 p316 H319
      have st126 : ∀ (wD_ : World) (p51 : Nat), Hp w [] [.blk p3 (wl t) 24, .blk p7 (wl m) 24, .blk p11 z4 24, .blk p51 z4 24] wD_ → X [0, 1, 2, 9] [(1, .int .u64 (u : Int)), (2, .int .u64 (d : Int)), (7, pt p7 0), (8, pt p11 0), (11, pt p51 0), (29, wv t), (31, wv d)] wD_ := by
        intro wD_ p51 HD_
        rw [hX]
        have hS321 : Hp w [] [.blk p3 (wl t) 24, .blk p7 (wl m) 24, .blk p11 z4 24] wD_ := HD_.sub (List.Sublist.cons_cons _ (List.Sublist.cons_cons _ (List.Sublist.cons_cons _ (List.Sublist.cons _ (List.Sublist.slnil)))))
        refine GP.all2 3 8 (by kernel_rfl) ?_ ?_
        · skip
          have hS322 : Hp w [] [.blk p3 (wl t) 24, .blk p7 (wl m) 24, .blk p11 z4 24] wD_ := HD_.sub (List.Sublist.cons_cons _ (List.Sublist.cons_cons _ (List.Sublist.cons_cons _ (List.Sublist.cons _ (List.Sublist.slnil)))))
          refine GO.call (Div_calls t d ht (Nat.lt_trans hd (by decide)) (hd0) wD_) (by kernel_rfl) (fun e_ w323 hR => ?_)
          obtain ⟨rfl, H325⟩ := hR
          have H324 : Hp w [] [.blk p3 (wl t) 24, .blk p7 (wl m) 24, .blk p11 z4 24, .blk p51 z4 24] w323 := HD_.callNil H325
          have hS326 : Hp w [] [.blk p3 (wl t) 24, .blk p7 (wl m) 24, .blk p11 z4 24] w323 := H324.sub (List.Sublist.cons_cons _ (List.Sublist.cons_cons _ (List.Sublist.cons_cons _ (List.Sublist.cons _ (List.Sublist.slnil)))))
          refine ⟨_, rfl, hS326, [1, 2, 7, 8, 11, 32], [(1, .int .u64 (u : Int)), (2, .int .u64 (d : Int)), (7, pt p7 0), (8, pt p11 0), (11, pt p51 0), (32, .tuple #[wv (t / d), wv (t % d), .int .i64 0])], by kernel_rfl, ?_⟩
          refine GP.run [4, 5, 6, 7] [1, 2, 7, 8, 11, 33, 34, 35] [(1, .int .u64 (u : Int)), (2, .int .u64 (d : Int)), (7, pt p7 0), (8, pt p11 0), (11, pt p51 0), (33, wv (t / d)), (34, wv (t % d)), (35, .int .i64 0)] [0, 1, 2, 9, 3, 4, 5, 6, 7] (by kernel_rfl) rfl hS326 ?_
          refine GP.perm [0, 1, 2, 3, 4, 5, 6, 7, 9] (by kernel_rfl) rfl ?_
          rw [← hX]
          exact st129 _ p51 H324
        · skip
          have hS327 : Hp w [] [.blk p3 (wl t) 24, .blk p7 (wl m) 24, .blk p11 z4 24] wD_ := HD_.sub (List.Sublist.cons_cons _ (List.Sublist.cons_cons _ (List.Sublist.cons_cons _ (List.Sublist.cons _ (List.Sublist.slnil)))))
          obtain ⟨p328, w329, r330, H331⟩ := HD_.alloc (P := Try.prog) 24 z4 (by kernel_rfl)
          have H331 : Hp w [] [.blk p3 (wl t) 24, .blk p7 (wl m) 24, .blk p11 z4 24, .blk p51 z4 24, .blk p328 z4 24] w329 := H331
          have hS332 : Hp w [] [.blk p3 (wl t) 24, .blk p7 (wl m) 24, .blk p11 z4 24] w329 := H331.sub (List.Sublist.cons_cons _ (List.Sublist.cons_cons _ (List.Sublist.cons_cons _ (List.Sublist.cons _ (List.Sublist.cons _ (List.Sublist.slnil))))))
          refine GO.made r330 [1, 2, 7, 8, 10, 11, 29, 31] [(1, .int .u64 (u : Int)), (2, .int .u64 (d : Int)), (7, pt p7 0), (8, pt p11 0), (10, pt p328 0), (11, pt p51 0), (29, wv t), (31, wv d)] (by kernel_rfl) (by kernel_rfl) hS332 ?_
          have H333 := (Hp.reorder (L' := [.blk p3 (wl t) 24, .blk p7 (wl m) 24, .blk p11 z4 24, .blk p328 z4 24, .blk p51 z4 24]) H331 (List.Perm.cons _ (List.Perm.cons _ (List.Perm.cons _ (List.Perm.trans (List.Perm.swap _ _ _) (List.Perm.refl _))))))
          refine GP.perm [0, 1, 2, 8, 9] (by kernel_rfl) rfl ?_
          rw [← hX]
          exact st130 _ p328 p51 H333
      have st127 : ∀ (wD_ : World) (p32 : Nat) (p60 : Nat), Hp w [] [.blk p3 (wl t) 24, .blk p7 (wl m) 24, .blk p11 z4 24, .blk p32 z4 24, .blk p60 z4 24] wD_ → X [0, 1, 8, 9] [(1, .int .u64 (u : Int)), (2, .int .u64 (d : Int)), (7, pt p7 0), (8, pt p11 0), (10, pt p32 0), (11, pt p60 0), (29, wv t), (30, .int .u64 (d : Int))] wD_ := by
        intro wD_ p32 p60 HD_
        rw [hX]
        have hS334 : Hp w [] [.blk p3 (wl t) 24, .blk p7 (wl m) 24, .blk p11 z4 24] wD_ := HD_.sub (List.Sublist.cons_cons _ (List.Sublist.cons_cons _ (List.Sublist.cons_cons _ (List.Sublist.cons _ (List.Sublist.cons _ (List.Sublist.slnil))))))
        refine GP.all1 2 (by kernel_rfl) ?_
        · skip
          have hS335 : Hp w [] [.blk p3 (wl t) 24, .blk p7 (wl m) 24, .blk p11 z4 24] wD_ := HD_.sub (List.Sublist.cons_cons _ (List.Sublist.cons_cons _ (List.Sublist.cons_cons _ (List.Sublist.cons _ (List.Sublist.cons _ (List.Sublist.slnil))))))
          refine GO.call (Of_calls d hd wD_) (by kernel_rfl) (fun e_ w336 hR => ?_)
          obtain ⟨rfl, H338⟩ := hR
          have H337 : Hp w [] [.blk p3 (wl t) 24, .blk p7 (wl m) 24, .blk p11 z4 24, .blk p32 z4 24, .blk p60 z4 24] w336 := HD_.callNil H338
          have hS339 : Hp w [] [.blk p3 (wl t) 24, .blk p7 (wl m) 24, .blk p11 z4 24] w336 := H337.sub (List.Sublist.cons_cons _ (List.Sublist.cons_cons _ (List.Sublist.cons_cons _ (List.Sublist.cons _ (List.Sublist.cons _ (List.Sublist.slnil))))))
          refine ⟨_, rfl, hS339, [1, 2, 7, 8, 10, 11, 29, 31], [(1, .int .u64 (u : Int)), (2, .int .u64 (d : Int)), (7, pt p7 0), (8, pt p11 0), (10, pt p32 0), (11, pt p60 0), (29, wv t), (31, wv d)], by kernel_rfl, ?_⟩
          refine GP.perm [0, 1, 2, 8, 9] (by kernel_rfl) rfl ?_
          rw [← hX]
          exact st130 _ p32 p60 H337
      have st121 : ∀ (wD_ : World), Hp w [] [.blk p3 (wl t) 24, .blk p7 (wl m) 24, .blk p11 z4 24] wD_ → X [0, 1, 2] [(1, .int .u64 (u : Int)), (2, .int .u64 (d : Int)), (7, pt p7 0), (8, pt p11 0), (29, wv t), (31, wv d)] wD_ := by
        intro wD_ HD_
        rw [hX]
        have hS340 : Hp w [] [.blk p3 (wl t) 24, .blk p7 (wl m) 24, .blk p11 z4 24] wD_ := HD_.sub (List.Sublist.cons_cons _ (List.Sublist.cons_cons _ (List.Sublist.cons_cons _ (List.Sublist.slnil))))
        refine GP.all3 3 8 9 (by kernel_rfl) ?_ ?_ ?_
        · skip
          have hS341 : Hp w [] [.blk p3 (wl t) 24, .blk p7 (wl m) 24, .blk p11 z4 24] wD_ := HD_.sub (List.Sublist.cons_cons _ (List.Sublist.cons_cons _ (List.Sublist.cons_cons _ (List.Sublist.slnil))))
          refine GO.call (Div_calls t d ht (Nat.lt_trans hd (by decide)) (hd0) wD_) (by kernel_rfl) (fun e_ w342 hR => ?_)
          obtain ⟨rfl, H344⟩ := hR
          have H343 : Hp w [] [.blk p3 (wl t) 24, .blk p7 (wl m) 24, .blk p11 z4 24] w342 := HD_.callNil H344
          have hS345 : Hp w [] [.blk p3 (wl t) 24, .blk p7 (wl m) 24, .blk p11 z4 24] w342 := H343.sub (List.Sublist.cons_cons _ (List.Sublist.cons_cons _ (List.Sublist.cons_cons _ (List.Sublist.slnil))))
          refine ⟨_, rfl, hS345, [1, 2, 7, 8, 32], [(1, .int .u64 (u : Int)), (2, .int .u64 (d : Int)), (7, pt p7 0), (8, pt p11 0), (32, .tuple #[wv (t / d), wv (t % d), .int .i64 0])], by kernel_rfl, ?_⟩
          refine GP.run [4, 5, 6, 7] [1, 2, 7, 8, 33, 34, 35] [(1, .int .u64 (u : Int)), (2, .int .u64 (d : Int)), (7, pt p7 0), (8, pt p11 0), (33, wv (t / d)), (34, wv (t % d)), (35, .int .i64 0)] [0, 1, 2, 3, 4, 5, 6, 7] (by kernel_rfl) rfl hS345 ?_
          refine GP.perm [0, 1, 2, 3, 4, 5, 6, 7] (by kernel_rfl) rfl ?_
          rw [← hX]
          exact st124 _ H343
        · skip
          have hS346 : Hp w [] [.blk p3 (wl t) 24, .blk p7 (wl m) 24, .blk p11 z4 24] wD_ := HD_.sub (List.Sublist.cons_cons _ (List.Sublist.cons_cons _ (List.Sublist.cons_cons _ (List.Sublist.slnil))))
          obtain ⟨p347, w348, r349, H350⟩ := HD_.alloc (P := Try.prog) 24 z4 (by kernel_rfl)
          have H350 : Hp w [] [.blk p3 (wl t) 24, .blk p7 (wl m) 24, .blk p11 z4 24, .blk p347 z4 24] w348 := H350
          have hS351 : Hp w [] [.blk p3 (wl t) 24, .blk p7 (wl m) 24, .blk p11 z4 24] w348 := H350.sub (List.Sublist.cons_cons _ (List.Sublist.cons_cons _ (List.Sublist.cons_cons _ (List.Sublist.cons _ (List.Sublist.slnil)))))
          refine GO.made r349 [1, 2, 7, 8, 10, 29, 31] [(1, .int .u64 (u : Int)), (2, .int .u64 (d : Int)), (7, pt p7 0), (8, pt p11 0), (10, pt p347 0), (29, wv t), (31, wv d)] (by kernel_rfl) (by kernel_rfl) hS351 ?_
          refine GP.perm [0, 1, 2, 8] (by kernel_rfl) rfl ?_
          rw [← hX]
          exact st125 _ p347 H350
        · skip
          have hS352 : Hp w [] [.blk p3 (wl t) 24, .blk p7 (wl m) 24, .blk p11 z4 24] wD_ := HD_.sub (List.Sublist.cons_cons _ (List.Sublist.cons_cons _ (List.Sublist.cons_cons _ (List.Sublist.slnil))))
          obtain ⟨p353, w354, r355, H356⟩ := HD_.alloc (P := Try.prog) 24 z4 (by kernel_rfl)
          have H356 : Hp w [] [.blk p3 (wl t) 24, .blk p7 (wl m) 24, .blk p11 z4 24, .blk p353 z4 24] w354 := H356
          have hS357 : Hp w [] [.blk p3 (wl t) 24, .blk p7 (wl m) 24, .blk p11 z4 24] w354 := H356.sub (List.Sublist.cons_cons _ (List.Sublist.cons_cons _ (List.Sublist.cons_cons _ (List.Sublist.cons _ (List.Sublist.slnil)))))
          refine GO.made r355 [1, 2, 7, 8, 11, 29, 31] [(1, .int .u64 (u : Int)), (2, .int .u64 (d : Int)), (7, pt p7 0), (8, pt p11 0), (11, pt p353 0), (29, wv t), (31, wv d)] (by kernel_rfl) (by kernel_rfl) hS357 ?_
          refine GP.perm [0, 1, 2, 9] (by kernel_rfl) rfl ?_
          rw [← hX]
          exact st126 _ p353 H356
      have st122 : ∀ (wD_ : World) (p32 : Nat), Hp w [] [.blk p3 (wl t) 24, .blk p7 (wl m) 24, .blk p11 z4 24, .blk p32 z4 24] wD_ → X [0, 1, 8] [(1, .int .u64 (u : Int)), (2, .int .u64 (d : Int)), (7, pt p7 0), (8, pt p11 0), (10, pt p32 0), (29, wv t), (30, .int .u64 (d : Int))] wD_ := by
        intro wD_ p32 HD_
        rw [hX]
        have hS358 : Hp w [] [.blk p3 (wl t) 24, .blk p7 (wl m) 24, .blk p11 z4 24] wD_ := HD_.sub (List.Sublist.cons_cons _ (List.Sublist.cons_cons _ (List.Sublist.cons_cons _ (List.Sublist.cons _ (List.Sublist.slnil)))))
        refine GP.all2 2 9 (by kernel_rfl) ?_ ?_
        · skip
          have hS359 : Hp w [] [.blk p3 (wl t) 24, .blk p7 (wl m) 24, .blk p11 z4 24] wD_ := HD_.sub (List.Sublist.cons_cons _ (List.Sublist.cons_cons _ (List.Sublist.cons_cons _ (List.Sublist.cons _ (List.Sublist.slnil)))))
          refine GO.call (Of_calls d hd wD_) (by kernel_rfl) (fun e_ w360 hR => ?_)
          obtain ⟨rfl, H362⟩ := hR
          have H361 : Hp w [] [.blk p3 (wl t) 24, .blk p7 (wl m) 24, .blk p11 z4 24, .blk p32 z4 24] w360 := HD_.callNil H362
          have hS363 : Hp w [] [.blk p3 (wl t) 24, .blk p7 (wl m) 24, .blk p11 z4 24] w360 := H361.sub (List.Sublist.cons_cons _ (List.Sublist.cons_cons _ (List.Sublist.cons_cons _ (List.Sublist.cons _ (List.Sublist.slnil)))))
          refine ⟨_, rfl, hS363, [1, 2, 7, 8, 10, 29, 31], [(1, .int .u64 (u : Int)), (2, .int .u64 (d : Int)), (7, pt p7 0), (8, pt p11 0), (10, pt p32 0), (29, wv t), (31, wv d)], by kernel_rfl, ?_⟩
          refine GP.perm [0, 1, 2, 8] (by kernel_rfl) rfl ?_
          rw [← hX]
          exact st125 _ p32 H361
        · skip
          have hS364 : Hp w [] [.blk p3 (wl t) 24, .blk p7 (wl m) 24, .blk p11 z4 24] wD_ := HD_.sub (List.Sublist.cons_cons _ (List.Sublist.cons_cons _ (List.Sublist.cons_cons _ (List.Sublist.cons _ (List.Sublist.slnil)))))
          obtain ⟨p365, w366, r367, H368⟩ := HD_.alloc (P := Try.prog) 24 z4 (by kernel_rfl)
          have H368 : Hp w [] [.blk p3 (wl t) 24, .blk p7 (wl m) 24, .blk p11 z4 24, .blk p32 z4 24, .blk p365 z4 24] w366 := H368
          have hS369 : Hp w [] [.blk p3 (wl t) 24, .blk p7 (wl m) 24, .blk p11 z4 24] w366 := H368.sub (List.Sublist.cons_cons _ (List.Sublist.cons_cons _ (List.Sublist.cons_cons _ (List.Sublist.cons _ (List.Sublist.cons _ (List.Sublist.slnil))))))
          refine GO.made r367 [1, 2, 7, 8, 10, 11, 29, 30] [(1, .int .u64 (u : Int)), (2, .int .u64 (d : Int)), (7, pt p7 0), (8, pt p11 0), (10, pt p32 0), (11, pt p365 0), (29, wv t), (30, .int .u64 (d : Int))] (by kernel_rfl) (by kernel_rfl) hS369 ?_
          refine GP.perm [0, 1, 8, 9] (by kernel_rfl) rfl ?_
          rw [← hX]
          exact st127 _ p32 p365 H368
      have st123 : ∀ (wD_ : World) (p37 : Nat), Hp w [] [.blk p3 (wl t) 24, .blk p7 (wl m) 24, .blk p11 z4 24, .blk p37 z4 24] wD_ → X [0, 1, 9] [(1, .int .u64 (u : Int)), (2, .int .u64 (d : Int)), (7, pt p7 0), (8, pt p11 0), (11, pt p37 0), (29, wv t), (30, .int .u64 (d : Int))] wD_ := by
        intro wD_ p37 HD_
        rw [hX]
        have hS370 : Hp w [] [.blk p3 (wl t) 24, .blk p7 (wl m) 24, .blk p11 z4 24] wD_ := HD_.sub (List.Sublist.cons_cons _ (List.Sublist.cons_cons _ (List.Sublist.cons_cons _ (List.Sublist.cons _ (List.Sublist.slnil)))))
        refine GP.all2 2 8 (by kernel_rfl) ?_ ?_
        · skip
          have hS371 : Hp w [] [.blk p3 (wl t) 24, .blk p7 (wl m) 24, .blk p11 z4 24] wD_ := HD_.sub (List.Sublist.cons_cons _ (List.Sublist.cons_cons _ (List.Sublist.cons_cons _ (List.Sublist.cons _ (List.Sublist.slnil)))))
          refine GO.call (Of_calls d hd wD_) (by kernel_rfl) (fun e_ w372 hR => ?_)
          obtain ⟨rfl, H374⟩ := hR
          have H373 : Hp w [] [.blk p3 (wl t) 24, .blk p7 (wl m) 24, .blk p11 z4 24, .blk p37 z4 24] w372 := HD_.callNil H374
          have hS375 : Hp w [] [.blk p3 (wl t) 24, .blk p7 (wl m) 24, .blk p11 z4 24] w372 := H373.sub (List.Sublist.cons_cons _ (List.Sublist.cons_cons _ (List.Sublist.cons_cons _ (List.Sublist.cons _ (List.Sublist.slnil)))))
          refine ⟨_, rfl, hS375, [1, 2, 7, 8, 11, 29, 31], [(1, .int .u64 (u : Int)), (2, .int .u64 (d : Int)), (7, pt p7 0), (8, pt p11 0), (11, pt p37 0), (29, wv t), (31, wv d)], by kernel_rfl, ?_⟩
          refine GP.perm [0, 1, 2, 9] (by kernel_rfl) rfl ?_
          rw [← hX]
          exact st126 _ p37 H373
        · skip
          have hS376 : Hp w [] [.blk p3 (wl t) 24, .blk p7 (wl m) 24, .blk p11 z4 24] wD_ := HD_.sub (List.Sublist.cons_cons _ (List.Sublist.cons_cons _ (List.Sublist.cons_cons _ (List.Sublist.cons _ (List.Sublist.slnil)))))
          obtain ⟨p377, w378, r379, H380⟩ := HD_.alloc (P := Try.prog) 24 z4 (by kernel_rfl)
          have H380 : Hp w [] [.blk p3 (wl t) 24, .blk p7 (wl m) 24, .blk p11 z4 24, .blk p37 z4 24, .blk p377 z4 24] w378 := H380
          have hS381 : Hp w [] [.blk p3 (wl t) 24, .blk p7 (wl m) 24, .blk p11 z4 24] w378 := H380.sub (List.Sublist.cons_cons _ (List.Sublist.cons_cons _ (List.Sublist.cons_cons _ (List.Sublist.cons _ (List.Sublist.cons _ (List.Sublist.slnil))))))
          refine GO.made r379 [1, 2, 7, 8, 10, 11, 29, 30] [(1, .int .u64 (u : Int)), (2, .int .u64 (d : Int)), (7, pt p7 0), (8, pt p11 0), (10, pt p377 0), (11, pt p37 0), (29, wv t), (30, .int .u64 (d : Int))] (by kernel_rfl) (by kernel_rfl) hS381 ?_
          have H382 := (Hp.reorder (L' := [.blk p3 (wl t) 24, .blk p7 (wl m) 24, .blk p11 z4 24, .blk p377 z4 24, .blk p37 z4 24]) H380 (List.Perm.cons _ (List.Perm.cons _ (List.Perm.cons _ (List.Perm.trans (List.Perm.swap _ _ _) (List.Perm.refl _))))))
          refine GP.perm [0, 1, 8, 9] (by kernel_rfl) rfl ?_
          rw [← hX]
          exact st127 _ p377 p37 H382
      have st120 : ∀ (wD_ : World), Hp w [] [.blk p3 (wl t) 24, .blk p7 (wl m) 24, .blk p11 z4 24] wD_ → X [0, 1] [(1, .int .u64 (u : Int)), (2, .int .u64 (d : Int)), (7, pt p7 0), (8, pt p11 0), (29, wv t), (30, .int .u64 (d : Int))] wD_ := by
        intro wD_ HD_
        rw [hX]
        have hS383 : Hp w [] [.blk p3 (wl t) 24, .blk p7 (wl m) 24, .blk p11 z4 24] wD_ := HD_.sub (List.Sublist.cons_cons _ (List.Sublist.cons_cons _ (List.Sublist.cons_cons _ (List.Sublist.slnil))))
        refine GP.all3 2 8 9 (by kernel_rfl) ?_ ?_ ?_
        · skip
          have hS384 : Hp w [] [.blk p3 (wl t) 24, .blk p7 (wl m) 24, .blk p11 z4 24] wD_ := HD_.sub (List.Sublist.cons_cons _ (List.Sublist.cons_cons _ (List.Sublist.cons_cons _ (List.Sublist.slnil))))
          refine GO.call (Of_calls d hd wD_) (by kernel_rfl) (fun e_ w385 hR => ?_)
          obtain ⟨rfl, H387⟩ := hR
          have H386 : Hp w [] [.blk p3 (wl t) 24, .blk p7 (wl m) 24, .blk p11 z4 24] w385 := HD_.callNil H387
          have hS388 : Hp w [] [.blk p3 (wl t) 24, .blk p7 (wl m) 24, .blk p11 z4 24] w385 := H386.sub (List.Sublist.cons_cons _ (List.Sublist.cons_cons _ (List.Sublist.cons_cons _ (List.Sublist.slnil))))
          refine ⟨_, rfl, hS388, [1, 2, 7, 8, 29, 31], [(1, .int .u64 (u : Int)), (2, .int .u64 (d : Int)), (7, pt p7 0), (8, pt p11 0), (29, wv t), (31, wv d)], by kernel_rfl, ?_⟩
          refine GP.perm [0, 1, 2] (by kernel_rfl) rfl ?_
          rw [← hX]
          exact st121 _ H386
        · skip
          have hS389 : Hp w [] [.blk p3 (wl t) 24, .blk p7 (wl m) 24, .blk p11 z4 24] wD_ := HD_.sub (List.Sublist.cons_cons _ (List.Sublist.cons_cons _ (List.Sublist.cons_cons _ (List.Sublist.slnil))))
          obtain ⟨p390, w391, r392, H393⟩ := HD_.alloc (P := Try.prog) 24 z4 (by kernel_rfl)
          have H393 : Hp w [] [.blk p3 (wl t) 24, .blk p7 (wl m) 24, .blk p11 z4 24, .blk p390 z4 24] w391 := H393
          have hS394 : Hp w [] [.blk p3 (wl t) 24, .blk p7 (wl m) 24, .blk p11 z4 24] w391 := H393.sub (List.Sublist.cons_cons _ (List.Sublist.cons_cons _ (List.Sublist.cons_cons _ (List.Sublist.cons _ (List.Sublist.slnil)))))
          refine GO.made r392 [1, 2, 7, 8, 10, 29, 30] [(1, .int .u64 (u : Int)), (2, .int .u64 (d : Int)), (7, pt p7 0), (8, pt p11 0), (10, pt p390 0), (29, wv t), (30, .int .u64 (d : Int))] (by kernel_rfl) (by kernel_rfl) hS394 ?_
          refine GP.perm [0, 1, 8] (by kernel_rfl) rfl ?_
          rw [← hX]
          exact st122 _ p390 H393
        · skip
          have hS395 : Hp w [] [.blk p3 (wl t) 24, .blk p7 (wl m) 24, .blk p11 z4 24] wD_ := HD_.sub (List.Sublist.cons_cons _ (List.Sublist.cons_cons _ (List.Sublist.cons_cons _ (List.Sublist.slnil))))
          obtain ⟨p396, w397, r398, H399⟩ := HD_.alloc (P := Try.prog) 24 z4 (by kernel_rfl)
          have H399 : Hp w [] [.blk p3 (wl t) 24, .blk p7 (wl m) 24, .blk p11 z4 24, .blk p396 z4 24] w397 := H399
          have hS400 : Hp w [] [.blk p3 (wl t) 24, .blk p7 (wl m) 24, .blk p11 z4 24] w397 := H399.sub (List.Sublist.cons_cons _ (List.Sublist.cons_cons _ (List.Sublist.cons_cons _ (List.Sublist.cons _ (List.Sublist.slnil)))))
          refine GO.made r398 [1, 2, 7, 8, 11, 29, 30] [(1, .int .u64 (u : Int)), (2, .int .u64 (d : Int)), (7, pt p7 0), (8, pt p11 0), (11, pt p396 0), (29, wv t), (30, .int .u64 (d : Int))] (by kernel_rfl) (by kernel_rfl) hS400 ?_
          refine GP.perm [0, 1, 9] (by kernel_rfl) rfl ?_
          rw [← hX]
          exact st123 _ p396 H399
      exact st120 _ H25
    · skip
      have hb22f := of_decide_eq_true hb22
      have hm0 : m = 0 := (wv_eq (y := 0) hm (by decide)).1 hb22f
      refine G.yes rfl ?_
      refine G.seqK fun K401 hK402 => ?_
      refine G.region ?_
      refine GL.run (j := 1) 1 [8, 27] [(8, pt p11 0), (27, .agg #[.int .u64 0, .int .u64 0, .int .u64 0, .int .u64 0])] (by kernel_rfl) rfl ?_
      obtain ⟨w403, r404, H405⟩ := H14.stA (P := Try.prog) (o := 0) (vs := z4) (ty := 24) (m := 4) 2 rfl (by kernel_rfl) rfl (by first | decide | simp) (z4_one)
      have H405 : Hp w [] [.blk p3 (wl t) 24, .blk p7 (wl m) 24, .blk p11 z4 24] w403 := H405
      refine GL.semU (j := 2) r404 [8] [(8, pt p11 0)] (by kernel_rfl) rfl rfl rfl ?_
      refine GL.run (j := 3) 1 [8, 9] [(8, pt p11 0), (9, .int .i64 1)] (by kernel_rfl) rfl ?_
      refine GL.k rfl hK402 (fun _ _ h => h) ?_
      refine G.ret ?_
      intro F_ hF_ hM_
      refine hRet _ _ (bodyPost_2 rfl (RV.cell rfl (H405.ldA (o := 0) (ty := 24) (m := 4) (sub := z4) 2 rfl (by kernel_rfl) rfl rfl)) (RV.tmp rfl) ?_ F_ hF_ hM_)
      have c1 : scR t u d m = 0 := by rw [scR, if_pos (.inr hm0)]
      have c2 : scE d m = 1 := by rw [scE, if_neg hd0, if_pos hm0]
      rw [c1, c2]
      exact ⟨rfl, H405.sub (List.nil_sublist _)⟩
  · skip
    have hb19f := eq_of_beq hb19
    have hd0 : d = 0 := by omega
    refine G.yes rfl ?_
    refine G.seqK fun K406 hK407 => ?_
    refine G.region ?_
    refine GL.run (j := 1) 1 [8, 22] [(8, pt p11 0), (22, .agg #[.int .u64 0, .int .u64 0, .int .u64 0, .int .u64 0])] (by kernel_rfl) rfl ?_
    obtain ⟨w408, r409, H410⟩ := H14.stA (P := Try.prog) (o := 0) (vs := z4) (ty := 24) (m := 4) 2 rfl (by kernel_rfl) rfl (by first | decide | simp) (z4_one)
    have H410 : Hp w [] [.blk p3 (wl t) 24, .blk p7 (wl m) 24, .blk p11 z4 24] w408 := H410
    refine GL.semU (j := 2) r409 [8] [(8, pt p11 0)] (by kernel_rfl) rfl rfl rfl ?_
    refine GL.run (j := 3) 1 [8, 9] [(8, pt p11 0), (9, .int .i64 5)] (by kernel_rfl) rfl ?_
    refine GL.k rfl hK407 (fun _ _ h => h) ?_
    refine G.ret ?_
    intro F_ hF_ hM_
    refine hRet _ _ (bodyPost_2 rfl (RV.cell rfl (H410.ldA (o := 0) (ty := 24) (m := 4) (sub := z4) 2 rfl (by kernel_rfl) rfl rfl)) (RV.tmp rfl) ?_ F_ hF_ hM_)
    have c1 : scR t u d m = 0 := by rw [scR, if_pos (.inl hd0)]
    have c2 : scE d m = 5 := by rw [scE, if_pos hd0]
    rw [c1, c2]
    exact ⟨rfl, H410.sub (List.nil_sublist _)⟩
end Go.Proofs.Ytjfllmkihfidcaa
