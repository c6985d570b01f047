/- The contracts of package target: decoding, the work. -/
import Derived.Test.YtjfllmkihfidcaaWideLe
namespace Go.Proofs.Ytjfllmkihfidcaa
open Go.RowKit
theorem prod_lt {a b : Nat} (ha : a < K) (hb : b < K) : a * b < K4 := by
  have h : a * b ≤ (K - 1) * (K - 1) := Nat.mul_le_mul (by omega) (by omega)
  exact Nat.lt_of_le_of_lt h (by decide)
/-- The work of a target. -/
def workV (t : Nat) : Nat := if K4 ≤ K4 / (t + 1) then K4 - 1 else K4 / (t + 1)
theorem work_lt {t : Nat} (_ht : t < K4) : workV t < K4 := by
  unfold workV
  split
  · decide
  · omega
theorem work_one {t : Nat} (h : t + 1 = K4) : workV t = 1 := by rw [workV, h, Nat.div_self (by decide), if_neg (by decide)]
theorem work_zero {t : Nat} (h : t = 0) : workV t = K4 - 1 := by rw [workV, h, Nat.zero_add, Nat.div_one, if_pos (Nat.le_refl _)]
theorem work_quo {t : Nat} (ht : t + 1 < K4) : (K4 - 1 - t) / (t + 1) + 1 = K4 / (t + 1) := by
  rw [← Nat.add_div_right _ (by omega : 0 < t + 1)]
  congr 1
  omega
theorem work_le {t : Nat} (h0 : t ≠ 0) : K4 / (t + 1) < K4 := Nat.div_lt_self (by decide) (by omega)
theorem work_some {t : Nat} (h0 : t ≠ 0) : workV t = K4 / (t + 1) := by rw [workV, if_neg (Nat.not_le_of_lt (work_le h0))]
theorem work_mono {t u : Nat} (h : t ≤ u) : workV u ≤ workV t := by
  have h1 : K4 / (u + 1) ≤ K4 / (t + 1) := Nat.div_le_div_left (by omega) (by omega)
  have h2 : K4 / (t + 1) ≤ K4 := Nat.div_le_self _ _
  have hK40 : K4 = 115792089237316195423570985008687907853269984665640564039457584007913129639936 := rfl
  unfold workV
  generalize K4 / (u + 1) = a at *
  generalize K4 / (t + 1) = b at *
  split <;> split <;> omega
theorem Work_calls (t : Nat) (ht : t < K4) (w : World) : Calls Try.prog 8 #[wv t] w fun e w' => e = .returned (wv (workV t)) ∧ Hp w [] [] w' := by
  have hMX : MX = 4611686018427387904 := rfl
  have hK0 : K = 18446744073709551616 := rfl
  have hK40 : K4 = 115792089237316195423570985008687907853269984665640564039457584007913129639936 := rfl
  refine calls_G (args := [wv t]) Try.func8 rfl Try.ntmps8 rfl ?_
  intro Q0 hRet hNor hPan
  have H := Hp.start w
  have H : Hp w [] [] w := H
  refine G.seqK fun K1 hK2 => ?_
  refine G.region ?_
  obtain ⟨p3, w4, r5, H6⟩ := H.box (P := Try.prog) 24 (wl t) (wv t) rfl
  have H6 : Hp w [] [.blk p3 (wl t) 24] w4 := H6
  refine GL.sem (j := 1) (r5) [1] [(1, pt p3 0)] (by kernel_rfl) (by kernel_rfl) rfl ?_
  obtain ⟨p7, w8, r9, H10⟩ := H6.alloc (P := Try.prog) 24 z4 (by kernel_rfl)
  have H10 : Hp w [] [.blk p3 (wl t) 24, .blk p7 z4 24] w8 := H10
  refine GL.sem (j := 2) (r9) [1, 2] [(1, pt p3 0), (2, pt p7 0)] (by kernel_rfl) (by kernel_rfl) rfl ?_
  refine GL.k rfl hK2 (fun _ _ h => h) ?_
  refine G.seqK fun K11 hK12 => ?_
  refine G.heldP (Hp w [] [.blk p3 (wl t) 24, .blk p7 z4 24]) (by kernel_rfl) (by kernel_rfl) (fun c_ a_ d_ v_ w_ h_ => hPan c_ a_ d_ v_ w_ h_) ?_
  have H13 := H10.drew
  generalize ({ w8 with drawn := w8.drawn + 1 } : World) = w14 at H13 ⊢
  have hS15 : Hp w [] [.blk p3 (wl t) 24, .blk p7 z4 24] w14 := H13.sub (List.Sublist.cons_cons _ (List.Sublist.cons_cons _ (List.Sublist.slnil)))
  refine GP.sem 0 (fun w_ H_ => H_.ldA (o := 0) (ty := 24) (m := 4) (sub := (wl t)) 0 rfl (by kernel_rfl) rfl rfl) [1, 2, 10] [(1, pt p3 0), (2, pt p7 0), (10, wv t)] (by kernel_rfl) (by kernel_rfl) (by kernel_rfl) hS15 ?_
  refine GP.named fun X hX => ?_
  have st52 : ∀ (wD_ : World) (p38 : Nat), Hp w [] [.blk p3 (wl t) 24, .blk p7 z4 24, .blk p38 z4 24] wD_ → X [0, 1, 2, 3, 4, 5, 6] [(1, pt p3 0), (2, pt p7 0), (3, pt p38 0), (13, wv ((t + 1) % K4)), (14, .bool (decide (K4 ≤ t + 1)))] wD_ := by
    intro wD_ p38 HD_
    rw [hX]
    have hS53 : Hp w [] [.blk p3 (wl t) 24, .blk p7 z4 24] wD_ := HD_.sub (List.Sublist.cons_cons _ (List.Sublist.cons_cons _ (List.Sublist.cons _ (List.Sublist.slnil))))
    obtain ⟨w54, r55, H56⟩ := HD_.stA (P := Try.prog) (o := 0) (vs := (wl ((t + 1) % K4))) (ty := 24) (m := 4) 2 rfl (by kernel_rfl) rfl (by first | decide | simp) (wl_one _)
    have H56 : Hp w [] [.blk p3 (wl t) 24, .blk p7 z4 24, .blk p38 (wl ((t + 1) % K4)) 24] w54 := H56
    have hS57 : Hp w [] [.blk p3 (wl t) 24, .blk p7 z4 24] w54 := H56.sub (List.Sublist.cons_cons _ (List.Sublist.cons_cons _ (List.Sublist.cons _ (List.Sublist.slnil))))
    refine GP.semU 7 r55 [1, 2, 3, 14] [(1, pt p3 0), (2, pt p7 0), (3, pt p38 0), (14, .bool (decide (K4 ≤ t + 1)))] (by kernel_rfl) rfl rfl (by kernel_rfl) hS57 ?_
    refine GP.run [8] [1, 2, 3, 4] [(1, pt p3 0), (2, pt p7 0), (3, pt p38 0), (4, .bool (decide (K4 ≤ t + 1)))] [0, 1, 2, 3, 4, 5, 6, 7, 8] (by kernel_rfl) rfl hS57 ?_
    refine GP.k (by kernel_rfl) hK12 (fun _ _ h => h) ?_
    refine G.seqK fun K58 hK59 => ?_
    refine G.seqK fun K60 hK61 => ?_
    refine G.region ?_
    refine GL.run (j := 1) 1 [1, 2, 3, 15] [(1, pt p3 0), (2, pt p7 0), (3, pt p38 0), (15, .bool (decide (K4 ≤ t + 1)))] (by kernel_rfl) rfl ?_
    refine GL.k rfl hK61 (fun _ _ h => h) ?_
    cases hb62 : (decide (K4 ≤ t + 1))
    · skip
      have hb62f := of_decide_eq_false hb62
      have hov1 := hb62f
      refine G.no rfl ?_
      refine G.skipK hK59 (fun _ _ h => h) ?_
      refine G.seqK fun K63 hK64 => ?_
      refine G.heldP (Hp w [] [.blk p3 (wl t) 24, .blk p7 z4 24, .blk p38 (wl ((t + 1) % K4)) 24]) (by kernel_rfl) (by kernel_rfl) (fun c_ a_ d_ v_ w_ h_ => hPan c_ a_ d_ v_ w_ h_) ?_
      have H65 := H56.drew
      generalize ({ w54 with drawn := w54.drawn + 1 } : World) = w66 at H65 ⊢
      have hS67 : Hp w [] [.blk p3 (wl t) 24, .blk p7 z4 24, .blk p38 (wl ((t + 1) % K4)) 24] w66 := H65.sub (List.Sublist.cons_cons _ (List.Sublist.cons_cons _ (List.Sublist.cons_cons _ (List.Sublist.slnil))))
      refine GP.sem 0 (fun w_ H_ => H_.ldA (o := 0) (ty := 24) (m := 4) (sub := (wl t)) 0 rfl (by kernel_rfl) rfl rfl) [2, 3, 18] [(2, pt p7 0), (3, pt p38 0), (18, wv t)] (by kernel_rfl) (by kernel_rfl) (by kernel_rfl) hS67 ?_
      refine GP.sem 2 (fun w_ H_ => H_.ldA (o := 0) (ty := 24) (m := 4) (sub := (wl ((t + 1) % K4))) 2 rfl (by kernel_rfl) rfl rfl) [2, 18, 20] [(2, pt p7 0), (18, wv t), (20, wv ((t + 1) % K4))] (by kernel_rfl) (by kernel_rfl) (by kernel_rfl) hS67 ?_
      refine GP.named fun X hX => ?_
      have st171 : ∀ (wD_ : World) (p114 : Nat) (p146 : Nat), Hp w [] [.blk p3 (wl t) 24, .blk p7 z4 24, .blk p38 (wl ((t + 1) % K4)) 24, .blk p114 z4 24, .blk p146 z4 24] wD_ → X [0, 2, 1, 3, 4, 5, 6, 7, 8, 9] [(2, pt p7 0), (5, pt p114 0), (6, pt p146 0), (22, wv ((K4 - 1 - t) / ((t + 1) % K4))), (23, wv ((K4 - 1 - t) % ((t + 1) % K4))), (24, .int .i64 0)] wD_ := by
        intro wD_ p114 p146 HD_
        rw [hX]
        have hS172 : Hp w [] [.blk p3 (wl t) 24, .blk p7 z4 24, .blk p38 (wl ((t + 1) % K4)) 24] wD_ := HD_.sub (List.Sublist.cons_cons _ (List.Sublist.cons_cons _ (List.Sublist.cons_cons _ (List.Sublist.cons _ (List.Sublist.cons _ (List.Sublist.slnil))))))
        obtain ⟨w173, r174, H175⟩ := HD_.stA (P := Try.prog) (o := 0) (vs := (wl ((K4 - 1 - t) / ((t + 1) % K4)))) (ty := 24) (m := 4) 3 rfl (by kernel_rfl) rfl (by first | decide | simp) (wl_one _)
        have H175 : Hp w [] [.blk p3 (wl t) 24, .blk p7 z4 24, .blk p38 (wl ((t + 1) % K4)) 24, .blk p114 (wl ((K4 - 1 - t) / ((t + 1) % K4))) 24, .blk p146 z4 24] w173 := H175
        have hS176 : Hp w [] [.blk p3 (wl t) 24, .blk p7 z4 24, .blk p38 (wl ((t + 1) % K4)) 24] w173 := H175.sub (List.Sublist.cons_cons _ (List.Sublist.cons_cons _ (List.Sublist.cons_cons _ (List.Sublist.cons _ (List.Sublist.cons _ (List.Sublist.slnil))))))
        refine GP.semU 10 r174 [2, 5, 6, 23, 24] [(2, pt p7 0), (5, pt p114 0), (6, pt p146 0), (23, wv ((K4 - 1 - t) % ((t + 1) % K4))), (24, .int .i64 0)] (by kernel_rfl) rfl rfl (by kernel_rfl) hS176 ?_
        obtain ⟨w177, r178, H179⟩ := H175.stA (P := Try.prog) (o := 0) (vs := (wl ((K4 - 1 - t) % ((t + 1) % K4)))) (ty := 24) (m := 4) 4 rfl (by kernel_rfl) rfl (by first | decide | simp) (wl_one _)
        have H179 : Hp w [] [.blk p3 (wl t) 24, .blk p7 z4 24, .blk p38 (wl ((t + 1) % K4)) 24, .blk p114 (wl ((K4 - 1 - t) / ((t + 1) % K4))) 24, .blk p146 (wl ((K4 - 1 - t) % ((t + 1) % K4))) 24] w177 := H179
        have hS180 : Hp w [] [.blk p3 (wl t) 24, .blk p7 z4 24, .blk p38 (wl ((t + 1) % K4)) 24] w177 := H179.sub (List.Sublist.cons_cons _ (List.Sublist.cons_cons _ (List.Sublist.cons_cons _ (List.Sublist.cons _ (List.Sublist.cons _ (List.Sublist.slnil))))))
        refine GP.semU 11 r178 [2, 5, 24] [(2, pt p7 0), (5, pt p114 0), (24, .int .i64 0)] (by kernel_rfl) rfl rfl (by kernel_rfl) hS180 ?_
        refine GP.run [12] [2, 5, 7] [(2, pt p7 0), (5, pt p114 0), (7, .int .i64 0)] [0, 2, 1, 3, 4, 5, 6, 7, 8, 9, 10, 11, 12] (by kernel_rfl) rfl hS180 ?_
        refine GP.k (by kernel_rfl) hK64 (fun _ _ h => h) ?_
        refine G.seqK fun K181 hK182 => ?_
        refine G.seqK fun K183 hK184 => ?_
        refine G.region ?_
        refine GL.run (j := 2) 2 [2, 5, 26] [(2, pt p7 0), (5, pt p114 0), (26, .bool false)] (by kernel_rfl) rfl ?_
        refine GL.k rfl hK184 (fun _ _ h => h) ?_
        refine G.no rfl ?_
        refine G.skipK hK182 (fun _ _ h => h) ?_
        refine G.seqK fun K185 hK186 => ?_
        refine G.heldP (Hp w [] [.blk p3 (wl t) 24, .blk p7 z4 24, .blk p38 (wl ((t + 1) % K4)) 24, .blk p114 (wl ((K4 - 1 - t) / ((t + 1) % K4))) 24, .blk p146 (wl ((K4 - 1 - t) % ((t + 1) % K4))) 24]) (by kernel_rfl) (by kernel_rfl) (fun c_ a_ d_ v_ w_ h_ => hPan c_ a_ d_ v_ w_ h_) ?_
        have H187 := H179.drew
        generalize ({ w177 with drawn := w177.drawn + 1 } : World) = w188 at H187 ⊢
        have hS189 : Hp w [] [.blk p3 (wl t) 24, .blk p7 z4 24, .blk p38 (wl ((t + 1) % K4)) 24, .blk p114 (wl ((K4 - 1 - t) / ((t + 1) % K4))) 24, .blk p146 (wl ((K4 - 1 - t) % ((t + 1) % K4))) 24] w188 := H187.sub (List.Sublist.cons_cons _ (List.Sublist.cons_cons _ (List.Sublist.cons_cons _ (List.Sublist.cons_cons _ (List.Sublist.cons_cons _ (List.Sublist.slnil))))))
        refine GP.sem 0 (fun w_ H_ => H_.ldA (o := 0) (ty := 24) (m := 4) (sub := (wl ((K4 - 1 - t) / ((t + 1) % K4)))) 3 rfl (by kernel_rfl) rfl rfl) [2, 29] [(2, pt p7 0), (29, wv ((K4 - 1 - t) / ((t + 1) % K4)))] (by kernel_rfl) (by kernel_rfl) (by kernel_rfl) hS189 ?_
        refine GP.named fun X hX => ?_
        have st226 : ∀ (wD_ : World) (p212 : Nat), Hp w [] [.blk p3 (wl t) 24, .blk p7 z4 24, .blk p38 (wl ((t + 1) % K4)) 24, .blk p114 (wl ((K4 - 1 - t) / ((t + 1) % K4))) 24, .blk p146 (wl ((K4 - 1 - t) % ((t + 1) % K4))) 24, .blk p212 z4 24] wD_ → X [0, 1, 2, 3, 4, 5, 6] [(2, pt p7 0), (8, pt p212 0), (32, wv ((((K4 - 1 - t) / ((t + 1) % K4)) + 1) % K4)), (33, .bool (decide (K4 ≤ ((K4 - 1 - t) / ((t + 1) % K4)) + 1)))] wD_ := by
          intro wD_ p212 HD_
          rw [hX]
          have hS227 : Hp w [] [.blk p3 (wl t) 24, .blk p7 z4 24, .blk p38 (wl ((t + 1) % K4)) 24, .blk p114 (wl ((K4 - 1 - t) / ((t + 1) % K4))) 24, .blk p146 (wl ((K4 - 1 - t) % ((t + 1) % K4))) 24] wD_ := HD_.sub (List.Sublist.cons_cons _ (List.Sublist.cons_cons _ (List.Sublist.cons_cons _ (List.Sublist.cons_cons _ (List.Sublist.cons_cons _ (List.Sublist.cons _ (List.Sublist.slnil)))))))
          obtain ⟨w228, r229, H230⟩ := HD_.stA (P := Try.prog) (o := 0) (vs := (wl ((((K4 - 1 - t) / ((t + 1) % K4)) + 1) % K4))) (ty := 24) (m := 4) 5 rfl (by kernel_rfl) rfl (by first | decide | simp) (wl_one _)
          have H230 : Hp w [] [.blk p3 (wl t) 24, .blk p7 z4 24, .blk p38 (wl ((t + 1) % K4)) 24, .blk p114 (wl ((K4 - 1 - t) / ((t + 1) % K4))) 24, .blk p146 (wl ((K4 - 1 - t) % ((t + 1) % K4))) 24, .blk p212 (wl ((((K4 - 1 - t) / ((t + 1) % K4)) + 1) % K4)) 24] w228 := H230
          have hS231 : Hp w [] [.blk p3 (wl t) 24, .blk p7 z4 24, .blk p38 (wl ((t + 1) % K4)) 24, .blk p114 (wl ((K4 - 1 - t) / ((t + 1) % K4))) 24, .blk p146 (wl ((K4 - 1 - t) % ((t + 1) % K4))) 24] w228 := H230.sub (List.Sublist.cons_cons _ (List.Sublist.cons_cons _ (List.Sublist.cons_cons _ (List.Sublist.cons_cons _ (List.Sublist.cons_cons _ (List.Sublist.cons _ (List.Sublist.slnil)))))))
          refine GP.semU 7 r229 [2, 8, 33] [(2, pt p7 0), (8, pt p212 0), (33, .bool (decide (K4 ≤ ((K4 - 1 - t) / ((t + 1) % K4)) + 1)))] (by kernel_rfl) rfl rfl (by kernel_rfl) hS231 ?_
          refine GP.run [8] [2, 4, 8] [(2, pt p7 0), (4, .bool (decide (K4 ≤ ((K4 - 1 - t) / ((t + 1) % K4)) + 1))), (8, pt p212 0)] [0, 1, 2, 3, 4, 5, 6, 7, 8] (by kernel_rfl) rfl hS231 ?_
          refine GP.k (by kernel_rfl) hK186 (fun _ _ h => h) ?_
          refine G.seqK fun K232 hK233 => ?_
          refine G.seqK fun K234 hK235 => ?_
          refine G.region ?_
          refine GL.run (j := 1) 1 [2, 8, 34] [(2, pt p7 0), (8, pt p212 0), (34, .bool (decide (K4 ≤ ((K4 - 1 - t) / ((t + 1) % K4)) + 1)))] (by kernel_rfl) rfl ?_
          refine GL.k rfl hK235 (fun _ _ h => h) ?_
          cases hb236 : (decide (K4 ≤ ((K4 - 1 - t) / ((t + 1) % K4)) + 1))
          · skip
            have hb236f := of_decide_eq_false hb236
            have hov2 := hb236f
            refine G.no rfl ?_
            refine G.skipK hK233 (fun _ _ h => h) ?_
            refine G.seqK fun K237 hK238 => ?_
            refine G.region ?_
            refine GL.sem (j := 1) (H230.ldA (o := 0) (ty := 24) (m := 4) (sub := (wl ((((K4 - 1 - t) / ((t + 1) % K4)) + 1) % K4))) 5 rfl (by kernel_rfl) rfl rfl) [2, 37] [(2, pt p7 0), (37, wv ((((K4 - 1 - t) / ((t + 1) % K4)) + 1) % K4))] (by kernel_rfl) (by kernel_rfl) rfl ?_
            obtain ⟨w239, r240, H241⟩ := H230.stA (P := Try.prog) (o := 0) (vs := (wl ((((K4 - 1 - t) / ((t + 1) % K4)) + 1) % K4))) (ty := 24) (m := 4) 1 rfl (by kernel_rfl) rfl (by first | decide | simp) (wl_one _)
            have H241 : Hp w [] [.blk p3 (wl t) 24, .blk p7 (wl ((((K4 - 1 - t) / ((t + 1) % K4)) + 1) % K4)) 24, .blk p38 (wl ((t + 1) % K4)) 24, .blk p114 (wl ((K4 - 1 - t) / ((t + 1) % K4))) 24, .blk p146 (wl ((K4 - 1 - t) % ((t + 1) % K4))) 24, .blk p212 (wl ((((K4 - 1 - t) / ((t + 1) % K4)) + 1) % K4)) 24] w239 := H241
            refine GL.semU (j := 2) r240 [2] [(2, pt p7 0)] (by kernel_rfl) rfl rfl rfl ?_
            refine GL.k rfl hK238 (fun _ _ h => h) ?_
            refine G.ret ?_
            intro F_ hF_ hM_
            refine hRet _ _ (bodyPost_1 rfl (RV.cell rfl (H241.ldA (o := 0) (ty := 24) (m := 4) (sub := (wl ((((K4 - 1 - t) / ((t + 1) % K4)) + 1) % K4))) 1 rfl (by kernel_rfl) rfl rfl)) ?_ F_ hF_ hM_)
            have hlt : t + 1 < K4 := by omega
            rw [Nat.mod_eq_of_lt hlt, work_quo hlt] at hov2
            have ht0 : t ≠ 0 := fun h => hov2 (by rw [h]; decide)
            have hN : workV t = ((((K4 - 1 - t) / ((t + 1) % K4)) + 1) % K4) := by rw [work_some ht0, Nat.mod_eq_of_lt hlt, work_quo hlt, Nat.mod_eq_of_lt (work_le ht0)]
            rw [hN]
            exact ⟨rfl, H241.sub (List.nil_sublist _)⟩
          · skip
            have hb236f := of_decide_eq_true hb236
            have hov2 := hb236f
            refine G.yes rfl ?_
            refine G.seqK fun K242 hK243 => ?_
            refine G.region ?_
            refine GL.run (j := 1) 1 [2, 35] [(2, pt p7 0), (35, .agg #[.int .u64 0, .int .u64 0, .int .u64 0, .int .u64 0])] (by kernel_rfl) rfl ?_
            refine GL.call (j := 2) (Not_calls 0 (by decide) w228) (by kernel_rfl) rfl (fun e_ w244 hR => ?_)
            obtain ⟨he_, H246⟩ := hR
            obtain ⟨n247, hn248⟩ : ∃ v : Nat, v = K4 - 1 - 0 := ⟨_, rfl⟩
            rw [← hn248] at he_
            have n247l : n247 < K4 := by rw [hn248]; exact by simp only [K4]; omega
            subst he_
            have H245 : Hp w [] [.blk p3 (wl t) 24, .blk p7 z4 24, .blk p38 (wl ((t + 1) % K4)) 24, .blk p114 (wl ((K4 - 1 - t) / ((t + 1) % K4))) 24, .blk p146 (wl ((K4 - 1 - t) % ((t + 1) % K4))) 24, .blk p212 (wl ((((K4 - 1 - t) / ((t + 1) % K4)) + 1) % K4)) 24] w244 := H230.callNil H246
            refine ⟨_, rfl, [2, 36], [(2, pt p7 0), (36, wv n247)], by kernel_rfl, ?_⟩
            obtain ⟨w249, r250, H251⟩ := H245.stA (P := Try.prog) (o := 0) (vs := (wl n247)) (ty := 24) (m := 4) 1 rfl (by kernel_rfl) rfl (by first | decide | simp) (wl_one _)
            have H251 : Hp w [] [.blk p3 (wl t) 24, .blk p7 (wl n247) 24, .blk p38 (wl ((t + 1) % K4)) 24, .blk p114 (wl ((K4 - 1 - t) / ((t + 1) % K4))) 24, .blk p146 (wl ((K4 - 1 - t) % ((t + 1) % K4))) 24, .blk p212 (wl ((((K4 - 1 - t) / ((t + 1) % K4)) + 1) % K4)) 24] w249 := H251
            refine GL.semU (j := 3) r250 [2] [(2, pt p7 0)] (by kernel_rfl) rfl rfl rfl ?_
            refine GL.k rfl hK243 (fun _ _ h => h) ?_
            refine G.ret ?_
            intro F_ hF_ hM_
            refine hRet _ _ (bodyPost_1 rfl (RV.cell rfl (H251.ldA (o := 0) (ty := 24) (m := 4) (sub := (wl n247)) 1 rfl (by kernel_rfl) rfl rfl)) ?_ F_ hF_ hM_)
            have hlt : t + 1 < K4 := by omega
            rw [Nat.mod_eq_of_lt hlt, work_quo hlt] at hov2
            have ht0 : t = 0 := by
              by_cases h0 : t = 0
              · exact h0
              · exact absurd hov2 (Nat.not_le_of_lt (work_le h0))
            have hN : workV t = n247 := by rw [work_zero ht0, hn248, Nat.sub_zero]
            rw [hN]
            exact ⟨rfl, H251.sub (List.nil_sublist _)⟩
        have st224 : ∀ (wD_ : World), Hp w [] [.blk p3 (wl t) 24, .blk p7 z4 24, .blk p38 (wl ((t + 1) % K4)) 24, .blk p114 (wl ((K4 - 1 - t) / ((t + 1) % K4))) 24, .blk p146 (wl ((K4 - 1 - t) % ((t + 1) % K4))) 24] wD_ → X [0, 1, 2, 3, 4, 5] [(2, pt p7 0), (32, wv ((((K4 - 1 - t) / ((t + 1) % K4)) + 1) % K4)), (33, .bool (decide (K4 ≤ ((K4 - 1 - t) / ((t + 1) % K4)) + 1)))] wD_ := by
          intro wD_ HD_
          rw [hX]
          have hS252 : Hp w [] [.blk p3 (wl t) 24, .blk p7 z4 24, .blk p38 (wl ((t + 1) % K4)) 24, .blk p114 (wl ((K4 - 1 - t) / ((t + 1) % K4))) 24, .blk p146 (wl ((K4 - 1 - t) % ((t + 1) % K4))) 24] wD_ := HD_.sub (List.Sublist.cons_cons _ (List.Sublist.cons_cons _ (List.Sublist.cons_cons _ (List.Sublist.cons_cons _ (List.Sublist.cons_cons _ (List.Sublist.slnil))))))
          refine GP.all1 6 (by kernel_rfl) ?_
          · skip
            have hS253 : Hp w [] [.blk p3 (wl t) 24, .blk p7 z4 24, .blk p38 (wl ((t + 1) % K4)) 24, .blk p114 (wl ((K4 - 1 - t) / ((t + 1) % K4))) 24, .blk p146 (wl ((K4 - 1 - t) % ((t + 1) % K4))) 24] wD_ := HD_.sub (List.Sublist.cons_cons _ (List.Sublist.cons_cons _ (List.Sublist.cons_cons _ (List.Sublist.cons_cons _ (List.Sublist.cons_cons _ (List.Sublist.slnil))))))
            obtain ⟨p254, w255, r256, H257⟩ := HD_.alloc (P := Try.prog) 24 z4 (by kernel_rfl)
            have H257 : Hp w [] [.blk p3 (wl t) 24, .blk p7 z4 24, .blk p38 (wl ((t + 1) % K4)) 24, .blk p114 (wl ((K4 - 1 - t) / ((t + 1) % K4))) 24, .blk p146 (wl ((K4 - 1 - t) % ((t + 1) % K4))) 24, .blk p254 z4 24] w255 := H257
            have hS258 : Hp w [] [.blk p3 (wl t) 24, .blk p7 z4 24, .blk p38 (wl ((t + 1) % K4)) 24, .blk p114 (wl ((K4 - 1 - t) / ((t + 1) % K4))) 24, .blk p146 (wl ((K4 - 1 - t) % ((t + 1) % K4))) 24] w255 := H257.sub (List.Sublist.cons_cons _ (List.Sublist.cons_cons _ (List.Sublist.cons_cons _ (List.Sublist.cons_cons _ (List.Sublist.cons_cons _ (List.Sublist.cons _ (List.Sublist.slnil)))))))
            refine GO.made r256 [2, 8, 32, 33] [(2, pt p7 0), (8, pt p254 0), (32, wv ((((K4 - 1 - t) / ((t + 1) % K4)) + 1) % K4)), (33, .bool (decide (K4 ≤ ((K4 - 1 - t) / ((t + 1) % K4)) + 1)))] (by kernel_rfl) (by kernel_rfl) hS258 ?_
            refine GP.perm [0, 1, 2, 3, 4, 5, 6] (by kernel_rfl) rfl ?_
            rw [← hX]
            exact st226 _ p254 H257
        have st225 : ∀ (wD_ : World) (p203 : Nat), Hp w [] [.blk p3 (wl t) 24, .blk p7 z4 24, .blk p38 (wl ((t + 1) % K4)) 24, .blk p114 (wl ((K4 - 1 - t) / ((t + 1) % K4))) 24, .blk p146 (wl ((K4 - 1 - t) % ((t + 1) % K4))) 24, .blk p203 z4 24] wD_ → X [0, 1, 6] [(2, pt p7 0), (8, pt p203 0), (29, wv ((K4 - 1 - t) / ((t + 1) % K4))), (30, wv 1)] wD_ := by
          intro wD_ p203 HD_
          rw [hX]
          have hS259 : Hp w [] [.blk p3 (wl t) 24, .blk p7 z4 24, .blk p38 (wl ((t + 1) % K4)) 24, .blk p114 (wl ((K4 - 1 - t) / ((t + 1) % K4))) 24, .blk p146 (wl ((K4 - 1 - t) % ((t + 1) % K4))) 24] wD_ := HD_.sub (List.Sublist.cons_cons _ (List.Sublist.cons_cons _ (List.Sublist.cons_cons _ (List.Sublist.cons_cons _ (List.Sublist.cons_cons _ (List.Sublist.cons _ (List.Sublist.slnil)))))))
          refine GP.all1 2 (by kernel_rfl) ?_
          · skip
            have hS260 : Hp w [] [.blk p3 (wl t) 24, .blk p7 z4 24, .blk p38 (wl ((t + 1) % K4)) 24, .blk p114 (wl ((K4 - 1 - t) / ((t + 1) % K4))) 24, .blk p146 (wl ((K4 - 1 - t) % ((t + 1) % K4))) 24] wD_ := HD_.sub (List.Sublist.cons_cons _ (List.Sublist.cons_cons _ (List.Sublist.cons_cons _ (List.Sublist.cons_cons _ (List.Sublist.cons_cons _ (List.Sublist.cons _ (List.Sublist.slnil)))))))
            refine GO.call (Add_calls ((K4 - 1 - t) / ((t + 1) % K4)) 1 (Nat.lt_of_le_of_lt (Nat.div_le_self _ _) (by simp only [K4]; omega)) (by decide) wD_) (by kernel_rfl) (fun e_ w261 hR => ?_)
            obtain ⟨rfl, H263⟩ := hR
            have H262 : Hp w [] [.blk p3 (wl t) 24, .blk p7 z4 24, .blk p38 (wl ((t + 1) % K4)) 24, .blk p114 (wl ((K4 - 1 - t) / ((t + 1) % K4))) 24, .blk p146 (wl ((K4 - 1 - t) % ((t + 1) % K4))) 24, .blk p203 z4 24] w261 := HD_.callNil H263
            have hS264 : Hp w [] [.blk p3 (wl t) 24, .blk p7 z4 24, .blk p38 (wl ((t + 1) % K4)) 24, .blk p114 (wl ((K4 - 1 - t) / ((t + 1) % K4))) 24, .blk p146 (wl ((K4 - 1 - t) % ((t + 1) % K4))) 24] w261 := H262.sub (List.Sublist.cons_cons _ (List.Sublist.cons_cons _ (List.Sublist.cons_cons _ (List.Sublist.cons_cons _ (List.Sublist.cons_cons _ (List.Sublist.cons _ (List.Sublist.slnil)))))))
            refine ⟨_, rfl, hS264, [2, 8, 31], [(2, pt p7 0), (8, pt p203 0), (31, .tuple #[wv ((((K4 - 1 - t) / ((t + 1) % K4)) + 1) % K4), .bool (decide (K4 ≤ ((K4 - 1 - t) / ((t + 1) % K4)) + 1))])], by kernel_rfl, ?_⟩
            refine GP.run [3, 4, 5] [2, 8, 32, 33] [(2, pt p7 0), (8, pt p203 0), (32, wv ((((K4 - 1 - t) / ((t + 1) % K4)) + 1) % K4)), (33, .bool (decide (K4 ≤ ((K4 - 1 - t) / ((t + 1) % K4)) + 1)))] [0, 1, 6, 2, 3, 4, 5] (by kernel_rfl) rfl hS264 ?_
            refine GP.perm [0, 1, 2, 3, 4, 5, 6] (by kernel_rfl) rfl ?_
            rw [← hX]
            exact st226 _ p203 H262
        have st222 : ∀ (wD_ : World), Hp w [] [.blk p3 (wl t) 24, .blk p7 z4 24, .blk p38 (wl ((t + 1) % K4)) 24, .blk p114 (wl ((K4 - 1 - t) / ((t + 1) % K4))) 24, .blk p146 (wl ((K4 - 1 - t) % ((t + 1) % K4))) 24] wD_ → X [0, 1] [(2, pt p7 0), (29, wv ((K4 - 1 - t) / ((t + 1) % K4))), (30, wv 1)] wD_ := by
          intro wD_ HD_
          rw [hX]
          have hS265 : Hp w [] [.blk p3 (wl t) 24, .blk p7 z4 24, .blk p38 (wl ((t + 1) % K4)) 24, .blk p114 (wl ((K4 - 1 - t) / ((t + 1) % K4))) 24, .blk p146 (wl ((K4 - 1 - t) % ((t + 1) % K4))) 24] wD_ := HD_.sub (List.Sublist.cons_cons _ (List.Sublist.cons_cons _ (List.Sublist.cons_cons _ (List.Sublist.cons_cons _ (List.Sublist.cons_cons _ (List.Sublist.slnil))))))
          refine GP.all2 2 6 (by kernel_rfl) ?_ ?_
          · skip
            have hS266 : Hp w [] [.blk p3 (wl t) 24, .blk p7 z4 24, .blk p38 (wl ((t + 1) % K4)) 24, .blk p114 (wl ((K4 - 1 - t) / ((t + 1) % K4))) 24, .blk p146 (wl ((K4 - 1 - t) % ((t + 1) % K4))) 24] wD_ := HD_.sub (List.Sublist.cons_cons _ (List.Sublist.cons_cons _ (List.Sublist.cons_cons _ (List.Sublist.cons_cons _ (List.Sublist.cons_cons _ (List.Sublist.slnil))))))
            refine GO.call (Add_calls ((K4 - 1 - t) / ((t + 1) % K4)) 1 (Nat.lt_of_le_of_lt (Nat.div_le_self _ _) (by simp only [K4]; omega)) (by decide) wD_) (by kernel_rfl) (fun e_ w267 hR => ?_)
            obtain ⟨rfl, H269⟩ := hR
            have H268 : Hp w [] [.blk p3 (wl t) 24, .blk p7 z4 24, .blk p38 (wl ((t + 1) % K4)) 24, .blk p114 (wl ((K4 - 1 - t) / ((t + 1) % K4))) 24, .blk p146 (wl ((K4 - 1 - t) % ((t + 1) % K4))) 24] w267 := HD_.callNil H269
            have hS270 : Hp w [] [.blk p3 (wl t) 24, .blk p7 z4 24, .blk p38 (wl ((t + 1) % K4)) 24, .blk p114 (wl ((K4 - 1 - t) / ((t + 1) % K4))) 24, .blk p146 (wl ((K4 - 1 - t) % ((t + 1) % K4))) 24] w267 := H268.sub (List.Sublist.cons_cons _ (List.Sublist.cons_cons _ (List.Sublist.cons_cons _ (List.Sublist.cons_cons _ (List.Sublist.cons_cons _ (List.Sublist.slnil))))))
            refine ⟨_, rfl, hS270, [2, 31], [(2, pt p7 0), (31, .tuple #[wv ((((K4 - 1 - t) / ((t + 1) % K4)) + 1) % K4), .bool (decide (K4 ≤ ((K4 - 1 - t) / ((t + 1) % K4)) + 1))])], by kernel_rfl, ?_⟩
            refine GP.run [3, 4, 5] [2, 32, 33] [(2, pt p7 0), (32, wv ((((K4 - 1 - t) / ((t + 1) % K4)) + 1) % K4)), (33, .bool (decide (K4 ≤ ((K4 - 1 - t) / ((t + 1) % K4)) + 1)))] [0, 1, 2, 3, 4, 5] (by kernel_rfl) rfl hS270 ?_
            refine GP.perm [0, 1, 2, 3, 4, 5] (by kernel_rfl) rfl ?_
            rw [← hX]
            exact st224 _ H268
          · skip
            have hS271 : Hp w [] [.blk p3 (wl t) 24, .blk p7 z4 24, .blk p38 (wl ((t + 1) % K4)) 24, .blk p114 (wl ((K4 - 1 - t) / ((t + 1) % K4))) 24, .blk p146 (wl ((K4 - 1 - t) % ((t + 1) % K4))) 24] wD_ := HD_.sub (List.Sublist.cons_cons _ (List.Sublist.cons_cons _ (List.Sublist.cons_cons _ (List.Sublist.cons_cons _ (List.Sublist.cons_cons _ (List.Sublist.slnil))))))
            obtain ⟨p272, w273, r274, H275⟩ := HD_.alloc (P := Try.prog) 24 z4 (by kernel_rfl)
            have H275 : Hp w [] [.blk p3 (wl t) 24, .blk p7 z4 24, .blk p38 (wl ((t + 1) % K4)) 24, .blk p114 (wl ((K4 - 1 - t) / ((t + 1) % K4))) 24, .blk p146 (wl ((K4 - 1 - t) % ((t + 1) % K4))) 24, .blk p272 z4 24] w273 := H275
            have hS276 : Hp w [] [.blk p3 (wl t) 24, .blk p7 z4 24, .blk p38 (wl ((t + 1) % K4)) 24, .blk p114 (wl ((K4 - 1 - t) / ((t + 1) % K4))) 24, .blk p146 (wl ((K4 - 1 - t) % ((t + 1) % K4))) 24] w273 := H275.sub (List.Sublist.cons_cons _ (List.Sublist.cons_cons _ (List.Sublist.cons_cons _ (List.Sublist.cons_cons _ (List.Sublist.cons_cons _ (List.Sublist.cons _ (List.Sublist.slnil)))))))
            refine GO.made r274 [2, 8, 29, 30] [(2, pt p7 0), (8, pt p272 0), (29, wv ((K4 - 1 - t) / ((t + 1) % K4))), (30, wv 1)] (by kernel_rfl) (by kernel_rfl) hS276 ?_
            refine GP.perm [0, 1, 6] (by kernel_rfl) rfl ?_
            rw [← hX]
            exact st225 _ p272 H275
        have st223 : ∀ (wD_ : World) (p194 : Nat), Hp w [] [.blk p3 (wl t) 24, .blk p7 z4 24, .blk p38 (wl ((t + 1) % K4)) 24, .blk p114 (wl ((K4 - 1 - t) / ((t + 1) % K4))) 24, .blk p146 (wl ((K4 - 1 - t) % ((t + 1) % K4))) 24, .blk p194 z4 24] wD_ → X [0, 6] [(2, pt p7 0), (8, pt p194 0), (29, wv ((K4 - 1 - t) / ((t + 1) % K4)))] wD_ := by
          intro wD_ p194 HD_
          rw [hX]
          have hS277 : Hp w [] [.blk p3 (wl t) 24, .blk p7 z4 24, .blk p38 (wl ((t + 1) % K4)) 24, .blk p114 (wl ((K4 - 1 - t) / ((t + 1) % K4))) 24, .blk p146 (wl ((K4 - 1 - t) % ((t + 1) % K4))) 24] wD_ := HD_.sub (List.Sublist.cons_cons _ (List.Sublist.cons_cons _ (List.Sublist.cons_cons _ (List.Sublist.cons_cons _ (List.Sublist.cons_cons _ (List.Sublist.cons _ (List.Sublist.slnil)))))))
          refine GP.all1 1 (by kernel_rfl) ?_
          · skip
            have hS278 : Hp w [] [.blk p3 (wl t) 24, .blk p7 z4 24, .blk p38 (wl ((t + 1) % K4)) 24, .blk p114 (wl ((K4 - 1 - t) / ((t + 1) % K4))) 24, .blk p146 (wl ((K4 - 1 - t) % ((t + 1) % K4))) 24] wD_ := HD_.sub (List.Sublist.cons_cons _ (List.Sublist.cons_cons _ (List.Sublist.cons_cons _ (List.Sublist.cons_cons _ (List.Sublist.cons_cons _ (List.Sublist.cons _ (List.Sublist.slnil)))))))
            refine GO.call (Of_calls 1 (by decide) wD_) (by kernel_rfl) (fun e_ w279 hR => ?_)
            obtain ⟨rfl, H281⟩ := hR
            have H280 : Hp w [] [.blk p3 (wl t) 24, .blk p7 z4 24, .blk p38 (wl ((t + 1) % K4)) 24, .blk p114 (wl ((K4 - 1 - t) / ((t + 1) % K4))) 24, .blk p146 (wl ((K4 - 1 - t) % ((t + 1) % K4))) 24, .blk p194 z4 24] w279 := HD_.callNil H281
            have hS282 : Hp w [] [.blk p3 (wl t) 24, .blk p7 z4 24, .blk p38 (wl ((t + 1) % K4)) 24, .blk p114 (wl ((K4 - 1 - t) / ((t + 1) % K4))) 24, .blk p146 (wl ((K4 - 1 - t) % ((t + 1) % K4))) 24] w279 := H280.sub (List.Sublist.cons_cons _ (List.Sublist.cons_cons _ (List.Sublist.cons_cons _ (List.Sublist.cons_cons _ (List.Sublist.cons_cons _ (List.Sublist.cons _ (List.Sublist.slnil)))))))
            refine ⟨_, rfl, hS282, [2, 8, 29, 30], [(2, pt p7 0), (8, pt p194 0), (29, wv ((K4 - 1 - t) / ((t + 1) % K4))), (30, wv 1)], by kernel_rfl, ?_⟩
            refine GP.perm [0, 1, 6] (by kernel_rfl) rfl ?_
            rw [← hX]
            exact st225 _ p194 H280
        have st221 : ∀ (wD_ : World), Hp w [] [.blk p3 (wl t) 24, .blk p7 z4 24, .blk p38 (wl ((t + 1) % K4)) 24, .blk p114 (wl ((K4 - 1 - t) / ((t + 1) % K4))) 24, .blk p146 (wl ((K4 - 1 - t) % ((t + 1) % K4))) 24] wD_ → X [0] [(2, pt p7 0), (29, wv ((K4 - 1 - t) / ((t + 1) % K4)))] wD_ := by
          intro wD_ HD_
          rw [hX]
          have hS283 : Hp w [] [.blk p3 (wl t) 24, .blk p7 z4 24, .blk p38 (wl ((t + 1) % K4)) 24, .blk p114 (wl ((K4 - 1 - t) / ((t + 1) % K4))) 24, .blk p146 (wl ((K4 - 1 - t) % ((t + 1) % K4))) 24] wD_ := HD_.sub (List.Sublist.cons_cons _ (List.Sublist.cons_cons _ (List.Sublist.cons_cons _ (List.Sublist.cons_cons _ (List.Sublist.cons_cons _ (List.Sublist.slnil))))))
          refine GP.all2 1 6 (by kernel_rfl) ?_ ?_
          · skip
            have hS284 : Hp w [] [.blk p3 (wl t) 24, .blk p7 z4 24, .blk p38 (wl ((t + 1) % K4)) 24, .blk p114 (wl ((K4 - 1 - t) / ((t + 1) % K4))) 24, .blk p146 (wl ((K4 - 1 - t) % ((t + 1) % K4))) 24] wD_ := HD_.sub (List.Sublist.cons_cons _ (List.Sublist.cons_cons _ (List.Sublist.cons_cons _ (List.Sublist.cons_cons _ (List.Sublist.cons_cons _ (List.Sublist.slnil))))))
            refine GO.call (Of_calls 1 (by decide) wD_) (by kernel_rfl) (fun e_ w285 hR => ?_)
            obtain ⟨rfl, H287⟩ := hR
            have H286 : Hp w [] [.blk p3 (wl t) 24, .blk p7 z4 24, .blk p38 (wl ((t + 1) % K4)) 24, .blk p114 (wl ((K4 - 1 - t) / ((t + 1) % K4))) 24, .blk p146 (wl ((K4 - 1 - t) % ((t + 1) % K4))) 24] w285 := HD_.callNil H287
            have hS288 : Hp w [] [.blk p3 (wl t) 24, .blk p7 z4 24, .blk p38 (wl ((t + 1) % K4)) 24, .blk p114 (wl ((K4 - 1 - t) / ((t + 1) % K4))) 24, .blk p146 (wl ((K4 - 1 - t) % ((t + 1) % K4))) 24] w285 := H286.sub (List.Sublist.cons_cons _ (List.Sublist.cons_cons _ (List.Sublist.cons_cons _ (List.Sublist.cons_cons _ (List.Sublist.cons_cons _ (List.Sublist.slnil))))))
            refine ⟨_, rfl, hS288, [2, 29, 30], [(2, pt p7 0), (29, wv ((K4 - 1 - t) / ((t + 1) % K4))), (30, wv 1)], by kernel_rfl, ?_⟩
            refine GP.perm [0, 1] (by kernel_rfl) rfl ?_
            rw [← hX]
            exact st222 _ H286
          · skip
            have hS289 : Hp w [] [.blk p3 (wl t) 24, .blk p7 z4 24, .blk p38 (wl ((t + 1) % K4)) 24, .blk p114 (wl ((K4 - 1 - t) / ((t + 1) % K4))) 24, .blk p146 (wl ((K4 - 1 - t) % ((t + 1) % K4))) 24] wD_ := HD_.sub (List.Sublist.cons_cons _ (List.Sublist.cons_cons _ (List.Sublist.cons_cons _ (List.Sublist.cons_cons _ (List.Sublist.cons_cons _ (List.Sublist.slnil))))))
            obtain ⟨p290, w291, r292, H293⟩ := HD_.alloc (P := Try.prog) 24 z4 (by kernel_rfl)
            have H293 : Hp w [] [.blk p3 (wl t) 24, .blk p7 z4 24, .blk p38 (wl ((t + 1) % K4)) 24, .blk p114 (wl ((K4 - 1 - t) / ((t + 1) % K4))) 24, .blk p146 (wl ((K4 - 1 - t) % ((t + 1) % K4))) 24, .blk p290 z4 24] w291 := H293
            have hS294 : Hp w [] [.blk p3 (wl t) 24, .blk p7 z4 24, .blk p38 (wl ((t + 1) % K4)) 24, .blk p114 (wl ((K4 - 1 - t) / ((t + 1) % K4))) 24, .blk p146 (wl ((K4 - 1 - t) % ((t + 1) % K4))) 24] w291 := H293.sub (List.Sublist.cons_cons _ (List.Sublist.cons_cons _ (List.Sublist.cons_cons _ (List.Sublist.cons_cons _ (List.Sublist.cons_cons _ (List.Sublist.cons _ (List.Sublist.slnil)))))))
            refine GO.made r292 [2, 8, 29] [(2, pt p7 0), (8, pt p290 0), (29, wv ((K4 - 1 - t) / ((t + 1) % K4)))] (by kernel_rfl) (by kernel_rfl) hS294 ?_
            refine GP.perm [0, 6] (by kernel_rfl) rfl ?_
            rw [← hX]
            exact st223 _ p290 H293
        exact st221 _ H187
      have st168 : ∀ (wD_ : World) (p114 : Nat), Hp w [] [.blk p3 (wl t) 24, .blk p7 z4 24, .blk p38 (wl ((t + 1) % K4)) 24, .blk p114 z4 24] wD_ → X [0, 2, 1, 3, 4, 5, 6, 7, 8] [(2, pt p7 0), (5, pt p114 0), (22, wv ((K4 - 1 - t) / ((t + 1) % K4))), (23, wv ((K4 - 1 - t) % ((t + 1) % K4))), (24, .int .i64 0)] wD_ := by
        intro wD_ p114 HD_
        rw [hX]
        have hS295 : Hp w [] [.blk p3 (wl t) 24, .blk p7 z4 24, .blk p38 (wl ((t + 1) % K4)) 24] wD_ := HD_.sub (List.Sublist.cons_cons _ (List.Sublist.cons_cons _ (List.Sublist.cons_cons _ (List.Sublist.cons _ (List.Sublist.slnil)))))
        refine GP.all1 9 (by kernel_rfl) ?_
        · skip
          have hS296 : Hp w [] [.blk p3 (wl t) 24, .blk p7 z4 24, .blk p38 (wl ((t + 1) % K4)) 24] wD_ := HD_.sub (List.Sublist.cons_cons _ (List.Sublist.cons_cons _ (List.Sublist.cons_cons _ (List.Sublist.cons _ (List.Sublist.slnil)))))
          obtain ⟨p297, w298, r299, H300⟩ := HD_.alloc (P := Try.prog) 24 z4 (by kernel_rfl)
          have H300 : Hp w [] [.blk p3 (wl t) 24, .blk p7 z4 24, .blk p38 (wl ((t + 1) % K4)) 24, .blk p114 z4 24, .blk p297 z4 24] w298 := H300
          have hS301 : Hp w [] [.blk p3 (wl t) 24, .blk p7 z4 24, .blk p38 (wl ((t + 1) % K4)) 24] w298 := H300.sub (List.Sublist.cons_cons _ (List.Sublist.cons_cons _ (List.Sublist.cons_cons _ (List.Sublist.cons _ (List.Sublist.cons _ (List.Sublist.slnil))))))
          refine GO.made r299 [2, 5, 6, 22, 23, 24] [(2, pt p7 0), (5, pt p114 0), (6, pt p297 0), (22, wv ((K4 - 1 - t) / ((t + 1) % K4))), (23, wv ((K4 - 1 - t) % ((t + 1) % K4))), (24, .int .i64 0)] (by kernel_rfl) (by kernel_rfl) hS301 ?_
          refine GP.perm [0, 2, 1, 3, 4, 5, 6, 7, 8, 9] (by kernel_rfl) rfl ?_
          rw [← hX]
          exact st171 _ p114 p297 H300
      have st169 : ∀ (wD_ : World) (p119 : Nat), Hp w [] [.blk p3 (wl t) 24, .blk p7 z4 24, .blk p38 (wl ((t + 1) % K4)) 24, .blk p119 z4 24] wD_ → X [0, 2, 1, 3, 4, 5, 6, 7, 9] [(2, pt p7 0), (6, pt p119 0), (22, wv ((K4 - 1 - t) / ((t + 1) % K4))), (23, wv ((K4 - 1 - t) % ((t + 1) % K4))), (24, .int .i64 0)] wD_ := by
        intro wD_ p119 HD_
        rw [hX]
        have hS302 : Hp w [] [.blk p3 (wl t) 24, .blk p7 z4 24, .blk p38 (wl ((t + 1) % K4)) 24] wD_ := HD_.sub (List.Sublist.cons_cons _ (List.Sublist.cons_cons _ (List.Sublist.cons_cons _ (List.Sublist.cons _ (List.Sublist.slnil)))))
        refine GP.all1 8 (by kernel_rfl) ?_
        · skip
          have hS303 : Hp w [] [.blk p3 (wl t) 24, .blk p7 z4 24, .blk p38 (wl ((t + 1) % K4)) 24] wD_ := HD_.sub (List.Sublist.cons_cons _ (List.Sublist.cons_cons _ (List.Sublist.cons_cons _ (List.Sublist.cons _ (List.Sublist.slnil)))))
          obtain ⟨p304, w305, r306, H307⟩ := HD_.alloc (P := Try.prog) 24 z4 (by kernel_rfl)
          have H307 : Hp w [] [.blk p3 (wl t) 24, .blk p7 z4 24, .blk p38 (wl ((t + 1) % K4)) 24, .blk p119 z4 24, .blk p304 z4 24] w305 := H307
          have hS308 : Hp w [] [.blk p3 (wl t) 24, .blk p7 z4 24, .blk p38 (wl ((t + 1) % K4)) 24] w305 := H307.sub (List.Sublist.cons_cons _ (List.Sublist.cons_cons _ (List.Sublist.cons_cons _ (List.Sublist.cons _ (List.Sublist.cons _ (List.Sublist.slnil))))))
          refine GO.made r306 [2, 5, 6, 22, 23, 24] [(2, pt p7 0), (5, pt p304 0), (6, pt p119 0), (22, wv ((K4 - 1 - t) / ((t + 1) % K4))), (23, wv ((K4 - 1 - t) % ((t + 1) % K4))), (24, .int .i64 0)] (by kernel_rfl) (by kernel_rfl) hS308 ?_
          have H309 := (Hp.reorder (L' := [.blk p3 (wl t) 24, .blk p7 z4 24, .blk p38 (wl ((t + 1) % K4)) 24, .blk p304 z4 24, .blk p119 z4 24]) H307 (List.Perm.cons _ (List.Perm.cons _ (List.Perm.cons _ (List.Perm.trans (List.Perm.swap _ _ _) (List.Perm.refl _))))))
          refine GP.perm [0, 2, 1, 3, 4, 5, 6, 7, 8, 9] (by kernel_rfl) rfl ?_
          rw [← hX]
          exact st171 _ p304 p119 H309
      have st170 : ∀ (wD_ : World) (p86 : Nat) (p128 : Nat), Hp w [] [.blk p3 (wl t) 24, .blk p7 z4 24, .blk p38 (wl ((t + 1) % K4)) 24, .blk p86 z4 24, .blk p128 z4 24] wD_ → X [0, 2, 1, 8, 9] [(2, pt p7 0), (5, pt p86 0), (6, pt p128 0), (19, wv (K4 - 1 - t)), (20, wv ((t + 1) % K4))] wD_ := by
        intro wD_ p86 p128 HD_
        rw [hX]
        have hS310 : Hp w [] [.blk p3 (wl t) 24, .blk p7 z4 24, .blk p38 (wl ((t + 1) % K4)) 24] wD_ := HD_.sub (List.Sublist.cons_cons _ (List.Sublist.cons_cons _ (List.Sublist.cons_cons _ (List.Sublist.cons _ (List.Sublist.cons _ (List.Sublist.slnil))))))
        refine GP.all1 3 (by kernel_rfl) ?_
        · skip
          have hS311 : Hp w [] [.blk p3 (wl t) 24, .blk p7 z4 24, .blk p38 (wl ((t + 1) % K4)) 24] wD_ := HD_.sub (List.Sublist.cons_cons _ (List.Sublist.cons_cons _ (List.Sublist.cons_cons _ (List.Sublist.cons _ (List.Sublist.cons _ (List.Sublist.slnil))))))
          refine GO.call (Div_calls (K4 - 1 - t) ((t + 1) % K4) (by simp only [K4]; omega) (Nat.mod_lt _ (by decide)) (by rw [Nat.mod_eq_of_lt (by omega)]; omega) wD_) (by kernel_rfl) (fun e_ w312 hR => ?_)
          obtain ⟨rfl, H314⟩ := hR
          have H313 : Hp w [] [.blk p3 (wl t) 24, .blk p7 z4 24, .blk p38 (wl ((t + 1) % K4)) 24, .blk p86 z4 24, .blk p128 z4 24] w312 := HD_.callNil H314
          have hS315 : Hp w [] [.blk p3 (wl t) 24, .blk p7 z4 24, .blk p38 (wl ((t + 1) % K4)) 24] w312 := H313.sub (List.Sublist.cons_cons _ (List.Sublist.cons_cons _ (List.Sublist.cons_cons _ (List.Sublist.cons _ (List.Sublist.cons _ (List.Sublist.slnil))))))
          refine ⟨_, rfl, hS315, [2, 5, 6, 21], [(2, pt p7 0), (5, pt p86 0), (6, pt p128 0), (21, .tuple #[wv ((K4 - 1 - t) / ((t + 1) % K4)), wv ((K4 - 1 - t) % ((t + 1) % K4)), .int .i64 0])], by kernel_rfl, ?_⟩
          refine GP.run [4, 5, 6, 7] [2, 5, 6, 22, 23, 24] [(2, pt p7 0), (5, pt p86 0), (6, pt p128 0), (22, wv ((K4 - 1 - t) / ((t + 1) % K4))), (23, wv ((K4 - 1 - t) % ((t + 1) % K4))), (24, .int .i64 0)] [0, 2, 1, 8, 9, 3, 4, 5, 6, 7] (by kernel_rfl) rfl hS315 ?_
          refine GP.perm [0, 2, 1, 3, 4, 5, 6, 7, 8, 9] (by kernel_rfl) rfl ?_
          rw [← hX]
          exact st171 _ p86 p128 H313
      have st164 : ∀ (wD_ : World), Hp w [] [.blk p3 (wl t) 24, .blk p7 z4 24, .blk p38 (wl ((t + 1) % K4)) 24] wD_ → X [0, 2, 1, 3, 4, 5, 6, 7] [(2, pt p7 0), (22, wv ((K4 - 1 - t) / ((t + 1) % K4))), (23, wv ((K4 - 1 - t) % ((t + 1) % K4))), (24, .int .i64 0)] wD_ := by
        intro wD_ HD_
        rw [hX]
        have hS316 : Hp w [] [.blk p3 (wl t) 24, .blk p7 z4 24, .blk p38 (wl ((t + 1) % K4)) 24] wD_ := HD_.sub (List.Sublist.cons_cons _ (List.Sublist.cons_cons _ (List.Sublist.cons_cons _ (List.Sublist.slnil))))
        refine GP.all2 8 9 (by kernel_rfl) ?_ ?_
        · skip
          have hS317 : Hp w [] [.blk p3 (wl t) 24, .blk p7 z4 24, .blk p38 (wl ((t + 1) % K4)) 24] wD_ := HD_.sub (List.Sublist.cons_cons _ (List.Sublist.cons_cons _ (List.Sublist.cons_cons _ (List.Sublist.slnil))))
          obtain ⟨p318, w319, r320, H321⟩ := HD_.alloc (P := Try.prog) 24 z4 (by kernel_rfl)
          have H321 : Hp w [] [.blk p3 (wl t) 24, .blk p7 z4 24, .blk p38 (wl ((t + 1) % K4)) 24, .blk p318 z4 24] w319 := H321
          have hS322 : Hp w [] [.blk p3 (wl t) 24, .blk p7 z4 24, .blk p38 (wl ((t + 1) % K4)) 24] w319 := H321.sub (List.Sublist.cons_cons _ (List.Sublist.cons_cons _ (List.Sublist.cons_cons _ (List.Sublist.cons _ (List.Sublist.slnil)))))
          refine GO.made r320 [2, 5, 22, 23, 24] [(2, pt p7 0), (5, pt p318 0), (22, wv ((K4 - 1 - t) / ((t + 1) % K4))), (23, wv ((K4 - 1 - t) % ((t + 1) % K4))), (24, .int .i64 0)] (by kernel_rfl) (by kernel_rfl) hS322 ?_
          refine GP.perm [0, 2, 1, 3, 4, 5, 6, 7, 8] (by kernel_rfl) rfl ?_
          rw [← hX]
          exact st168 _ p318 H321
        · skip
          have hS323 : Hp w [] [.blk p3 (wl t) 24, .blk p7 z4 24, .blk p38 (wl ((t + 1) % K4)) 24] wD_ := HD_.sub (List.Sublist.cons_cons _ (List.Sublist.cons_cons _ (List.Sublist.cons_cons _ (List.Sublist.slnil))))
          obtain ⟨p324, w325, r326, H327⟩ := HD_.alloc (P := Try.prog) 24 z4 (by kernel_rfl)
          have H327 : Hp w [] [.blk p3 (wl t) 24, .blk p7 z4 24, .blk p38 (wl ((t + 1) % K4)) 24, .blk p324 z4 24] w325 := H327
          have hS328 : Hp w [] [.blk p3 (wl t) 24, .blk p7 z4 24, .blk p38 (wl ((t + 1) % K4)) 24] w325 := H327.sub (List.Sublist.cons_cons _ (List.Sublist.cons_cons _ (List.Sublist.cons_cons _ (List.Sublist.cons _ (List.Sublist.slnil)))))
          refine GO.made r326 [2, 6, 22, 23, 24] [(2, pt p7 0), (6, pt p324 0), (22, wv ((K4 - 1 - t) / ((t + 1) % K4))), (23, wv ((K4 - 1 - t) % ((t + 1) % K4))), (24, .int .i64 0)] (by kernel_rfl) (by kernel_rfl) hS328 ?_
          refine GP.perm [0, 2, 1, 3, 4, 5, 6, 7, 9] (by kernel_rfl) rfl ?_
          rw [← hX]
          exact st169 _ p324 H327
      have st165 : ∀ (wD_ : World) (p86 : Nat), Hp w [] [.blk p3 (wl t) 24, .blk p7 z4 24, .blk p38 (wl ((t + 1) % K4)) 24, .blk p86 z4 24] wD_ → X [0, 2, 1, 8] [(2, pt p7 0), (5, pt p86 0), (19, wv (K4 - 1 - t)), (20, wv ((t + 1) % K4))] wD_ := by
        intro wD_ p86 HD_
        rw [hX]
        have hS329 : Hp w [] [.blk p3 (wl t) 24, .blk p7 z4 24, .blk p38 (wl ((t + 1) % K4)) 24] wD_ := HD_.sub (List.Sublist.cons_cons _ (List.Sublist.cons_cons _ (List.Sublist.cons_cons _ (List.Sublist.cons _ (List.Sublist.slnil)))))
        refine GP.all2 3 9 (by kernel_rfl) ?_ ?_
        · skip
          have hS330 : Hp w [] [.blk p3 (wl t) 24, .blk p7 z4 24, .blk p38 (wl ((t + 1) % K4)) 24] wD_ := HD_.sub (List.Sublist.cons_cons _ (List.Sublist.cons_cons _ (List.Sublist.cons_cons _ (List.Sublist.cons _ (List.Sublist.slnil)))))
          refine GO.call (Div_calls (K4 - 1 - t) ((t + 1) % K4) (by simp only [K4]; omega) (Nat.mod_lt _ (by decide)) (by rw [Nat.mod_eq_of_lt (by omega)]; omega) wD_) (by kernel_rfl) (fun e_ w331 hR => ?_)
          obtain ⟨rfl, H333⟩ := hR
          have H332 : Hp w [] [.blk p3 (wl t) 24, .blk p7 z4 24, .blk p38 (wl ((t + 1) % K4)) 24, .blk p86 z4 24] w331 := HD_.callNil H333
          have hS334 : Hp w [] [.blk p3 (wl t) 24, .blk p7 z4 24, .blk p38 (wl ((t + 1) % K4)) 24] w331 := H332.sub (List.Sublist.cons_cons _ (List.Sublist.cons_cons _ (List.Sublist.cons_cons _ (List.Sublist.cons _ (List.Sublist.slnil)))))
          refine ⟨_, rfl, hS334, [2, 5, 21], [(2, pt p7 0), (5, pt p86 0), (21, .tuple #[wv ((K4 - 1 - t) / ((t + 1) % K4)), wv ((K4 - 1 - t) % ((t + 1) % K4)), .int .i64 0])], by kernel_rfl, ?_⟩
          refine GP.run [4, 5, 6, 7] [2, 5, 22, 23, 24] [(2, pt p7 0), (5, pt p86 0), (22, wv ((K4 - 1 - t) / ((t + 1) % K4))), (23, wv ((K4 - 1 - t) % ((t + 1) % K4))), (24, .int .i64 0)] [0, 2, 1, 8, 3, 4, 5, 6, 7] (by kernel_rfl) rfl hS334 ?_
          refine GP.perm [0, 2, 1, 3, 4, 5, 6, 7, 8] (by kernel_rfl) rfl ?_
          rw [← hX]
          exact st168 _ p86 H332
        · skip
          have hS335 : Hp w [] [.blk p3 (wl t) 24, .blk p7 z4 24, .blk p38 (wl ((t + 1) % K4)) 24] wD_ := HD_.sub (List.Sublist.cons_cons _ (List.Sublist.cons_cons _ (List.Sublist.cons_cons _ (List.Sublist.cons _ (List.Sublist.slnil)))))
          obtain ⟨p336, w337, r338, H339⟩ := HD_.alloc (P := Try.prog) 24 z4 (by kernel_rfl)
          have H339 : Hp w [] [.blk p3 (wl t) 24, .blk p7 z4 24, .blk p38 (wl ((t + 1) % K4)) 24, .blk p86 z4 24, .blk p336 z4 24] w337 := H339
          have hS340 : Hp w [] [.blk p3 (wl t) 24, .blk p7 z4 24, .blk p38 (wl ((t + 1) % K4)) 24] w337 := H339.sub (List.Sublist.cons_cons _ (List.Sublist.cons_cons _ (List.Sublist.cons_cons _ (List.Sublist.cons _ (List.Sublist.cons _ (List.Sublist.slnil))))))
          refine GO.made r338 [2, 5, 6, 19, 20] [(2, pt p7 0), (5, pt p86 0), (6, pt p336 0), (19, wv (K4 - 1 - t)), (20, wv ((t + 1) % K4))] (by kernel_rfl) (by kernel_rfl) hS340 ?_
          refine GP.perm [0, 2, 1, 8, 9] (by kernel_rfl) rfl ?_
          rw [← hX]
          exact st170 _ p86 p336 H339
      have st166 : ∀ (wD_ : World) (p91 : Nat), Hp w [] [.blk p3 (wl t) 24, .blk p7 z4 24, .blk p38 (wl ((t + 1) % K4)) 24, .blk p91 z4 24] wD_ → X [0, 2, 1, 9] [(2, pt p7 0), (6, pt p91 0), (19, wv (K4 - 1 - t)), (20, wv ((t + 1) % K4))] wD_ := by
        intro wD_ p91 HD_
        rw [hX]
        have hS341 : Hp w [] [.blk p3 (wl t) 24, .blk p7 z4 24, .blk p38 (wl ((t + 1) % K4)) 24] wD_ := HD_.sub (List.Sublist.cons_cons _ (List.Sublist.cons_cons _ (List.Sublist.cons_cons _ (List.Sublist.cons _ (List.Sublist.slnil)))))
        refine GP.all2 3 8 (by kernel_rfl) ?_ ?_
        · skip
          have hS342 : Hp w [] [.blk p3 (wl t) 24, .blk p7 z4 24, .blk p38 (wl ((t + 1) % K4)) 24] wD_ := HD_.sub (List.Sublist.cons_cons _ (List.Sublist.cons_cons _ (List.Sublist.cons_cons _ (List.Sublist.cons _ (List.Sublist.slnil)))))
          refine GO.call (Div_calls (K4 - 1 - t) ((t + 1) % K4) (by simp only [K4]; omega) (Nat.mod_lt _ (by decide)) (by rw [Nat.mod_eq_of_lt (by omega)]; omega) wD_) (by kernel_rfl) (fun e_ w343 hR => ?_)
          obtain ⟨rfl, H345⟩ := hR
          have H344 : Hp w [] [.blk p3 (wl t) 24, .blk p7 z4 24, .blk p38 (wl ((t + 1) % K4)) 24, .blk p91 z4 24] w343 := HD_.callNil H345
          have hS346 : Hp w [] [.blk p3 (wl t) 24, .blk p7 z4 24, .blk p38 (wl ((t + 1) % K4)) 24] w343 := H344.sub (List.Sublist.cons_cons _ (List.Sublist.cons_cons _ (List.Sublist.cons_cons _ (List.Sublist.cons _ (List.Sublist.slnil)))))
          refine ⟨_, rfl, hS346, [2, 6, 21], [(2, pt p7 0), (6, pt p91 0), (21, .tuple #[wv ((K4 - 1 - t) / ((t + 1) % K4)), wv ((K4 - 1 - t) % ((t + 1) % K4)), .int .i64 0])], by kernel_rfl, ?_⟩
          refine GP.run [4, 5, 6, 7] [2, 6, 22, 23, 24] [(2, pt p7 0), (6, pt p91 0), (22, wv ((K4 - 1 - t) / ((t + 1) % K4))), (23, wv ((K4 - 1 - t) % ((t + 1) % K4))), (24, .int .i64 0)] [0, 2, 1, 9, 3, 4, 5, 6, 7] (by kernel_rfl) rfl hS346 ?_
          refine GP.perm [0, 2, 1, 3, 4, 5, 6, 7, 9] (by kernel_rfl) rfl ?_
          rw [← hX]
          exact st169 _ p91 H344
        · skip
          have hS347 : Hp w [] [.blk p3 (wl t) 24, .blk p7 z4 24, .blk p38 (wl ((t + 1) % K4)) 24] wD_ := HD_.sub (List.Sublist.cons_cons _ (List.Sublist.cons_cons _ (List.Sublist.cons_cons _ (List.Sublist.cons _ (List.Sublist.slnil)))))
          obtain ⟨p348, w349, r350, H351⟩ := HD_.alloc (P := Try.prog) 24 z4 (by kernel_rfl)
          have H351 : Hp w [] [.blk p3 (wl t) 24, .blk p7 z4 24, .blk p38 (wl ((t + 1) % K4)) 24, .blk p91 z4 24, .blk p348 z4 24] w349 := H351
          have hS352 : Hp w [] [.blk p3 (wl t) 24, .blk p7 z4 24, .blk p38 (wl ((t + 1) % K4)) 24] w349 := H351.sub (List.Sublist.cons_cons _ (List.Sublist.cons_cons _ (List.Sublist.cons_cons _ (List.Sublist.cons _ (List.Sublist.cons _ (List.Sublist.slnil))))))
          refine GO.made r350 [2, 5, 6, 19, 20] [(2, pt p7 0), (5, pt p348 0), (6, pt p91 0), (19, wv (K4 - 1 - t)), (20, wv ((t + 1) % K4))] (by kernel_rfl) (by kernel_rfl) hS352 ?_
          have H353 := (Hp.reorder (L' := [.blk p3 (wl t) 24, .blk p7 z4 24, .blk p38 (wl ((t + 1) % K4)) 24, .blk p348 z4 24, .blk p91 z4 24]) H351 (List.Perm.cons _ (List.Perm.cons _ (List.Perm.cons _ (List.Perm.trans (List.Perm.swap _ _ _) (List.Perm.refl _))))))
          refine GP.perm [0, 2, 1, 8, 9] (by kernel_rfl) rfl ?_
          rw [← hX]
          exact st170 _ p348 p91 H353
      have st167 : ∀ (wD_ : World) (p72 : Nat) (p100 : Nat), Hp w [] [.blk p3 (wl t) 24, .blk p7 z4 24, .blk p38 (wl ((t + 1) % K4)) 24, .blk p72 z4 24, .blk p100 z4 24] wD_ → X [0, 2, 8, 9] [(2, pt p7 0), (5, pt p72 0), (6, pt p100 0), (18, wv t), (20, wv ((t + 1) % K4))] wD_ := by
        intro wD_ p72 p100 HD_
        rw [hX]
        have hS354 : Hp w [] [.blk p3 (wl t) 24, .blk p7 z4 24, .blk p38 (wl ((t + 1) % K4)) 24] wD_ := HD_.sub (List.Sublist.cons_cons _ (List.Sublist.cons_cons _ (List.Sublist.cons_cons _ (List.Sublist.cons _ (List.Sublist.cons _ (List.Sublist.slnil))))))
        refine GP.all1 1 (by kernel_rfl) ?_
        · skip
          have hS355 : Hp w [] [.blk p3 (wl t) 24, .blk p7 z4 24, .blk p38 (wl ((t + 1) % K4)) 24] wD_ := HD_.sub (List.Sublist.cons_cons _ (List.Sublist.cons_cons _ (List.Sublist.cons_cons _ (List.Sublist.cons _ (List.Sublist.cons _ (List.Sublist.slnil))))))
          refine GO.call (Not_calls t ht wD_) (by kernel_rfl) (fun e_ w356 hR => ?_)
          obtain ⟨rfl, H358⟩ := hR
          have H357 : Hp w [] [.blk p3 (wl t) 24, .blk p7 z4 24, .blk p38 (wl ((t + 1) % K4)) 24, .blk p72 z4 24, .blk p100 z4 24] w356 := HD_.callNil H358
          have hS359 : Hp w [] [.blk p3 (wl t) 24, .blk p7 z4 24, .blk p38 (wl ((t + 1) % K4)) 24] w356 := H357.sub (List.Sublist.cons_cons _ (List.Sublist.cons_cons _ (List.Sublist.cons_cons _ (List.Sublist.cons _ (List.Sublist.cons _ (List.Sublist.slnil))))))
          refine ⟨_, rfl, hS359, [2, 5, 6, 19, 20], [(2, pt p7 0), (5, pt p72 0), (6, pt p100 0), (19, wv (K4 - 1 - t)), (20, wv ((t + 1) % K4))], by kernel_rfl, ?_⟩
          refine GP.perm [0, 2, 1, 8, 9] (by kernel_rfl) rfl ?_
          rw [← hX]
          exact st170 _ p72 p100 H357
      have st161 : ∀ (wD_ : World), Hp w [] [.blk p3 (wl t) 24, .blk p7 z4 24, .blk p38 (wl ((t + 1) % K4)) 24] wD_ → X [0, 2, 1] [(2, pt p7 0), (19, wv (K4 - 1 - t)), (20, wv ((t + 1) % K4))] wD_ := by
        intro wD_ HD_
        rw [hX]
        have hS360 : Hp w [] [.blk p3 (wl t) 24, .blk p7 z4 24, .blk p38 (wl ((t + 1) % K4)) 24] wD_ := HD_.sub (List.Sublist.cons_cons _ (List.Sublist.cons_cons _ (List.Sublist.cons_cons _ (List.Sublist.slnil))))
        refine GP.all3 3 8 9 (by kernel_rfl) ?_ ?_ ?_
        · skip
          have hS361 : Hp w [] [.blk p3 (wl t) 24, .blk p7 z4 24, .blk p38 (wl ((t + 1) % K4)) 24] wD_ := HD_.sub (List.Sublist.cons_cons _ (List.Sublist.cons_cons _ (List.Sublist.cons_cons _ (List.Sublist.slnil))))
          refine GO.call (Div_calls (K4 - 1 - t) ((t + 1) % K4) (by simp only [K4]; omega) (Nat.mod_lt _ (by decide)) (by rw [Nat.mod_eq_of_lt (by omega)]; omega) wD_) (by kernel_rfl) (fun e_ w362 hR => ?_)
          obtain ⟨rfl, H364⟩ := hR
          have H363 : Hp w [] [.blk p3 (wl t) 24, .blk p7 z4 24, .blk p38 (wl ((t + 1) % K4)) 24] w362 := HD_.callNil H364
          have hS365 : Hp w [] [.blk p3 (wl t) 24, .blk p7 z4 24, .blk p38 (wl ((t + 1) % K4)) 24] w362 := H363.sub (List.Sublist.cons_cons _ (List.Sublist.cons_cons _ (List.Sublist.cons_cons _ (List.Sublist.slnil))))
          refine ⟨_, rfl, hS365, [2, 21], [(2, pt p7 0), (21, .tuple #[wv ((K4 - 1 - t) / ((t + 1) % K4)), wv ((K4 - 1 - t) % ((t + 1) % K4)), .int .i64 0])], by kernel_rfl, ?_⟩
          refine GP.run [4, 5, 6, 7] [2, 22, 23, 24] [(2, pt p7 0), (22, wv ((K4 - 1 - t) / ((t + 1) % K4))), (23, wv ((K4 - 1 - t) % ((t + 1) % K4))), (24, .int .i64 0)] [0, 2, 1, 3, 4, 5, 6, 7] (by kernel_rfl) rfl hS365 ?_
          refine GP.perm [0, 2, 1, 3, 4, 5, 6, 7] (by kernel_rfl) rfl ?_
          rw [← hX]
          exact st164 _ H363
        · skip
          have hS366 : Hp w [] [.blk p3 (wl t) 24, .blk p7 z4 24, .blk p38 (wl ((t + 1) % K4)) 24] wD_ := HD_.sub (List.Sublist.cons_cons _ (List.Sublist.cons_cons _ (List.Sublist.cons_cons _ (List.Sublist.slnil))))
          obtain ⟨p367, w368, r369, H370⟩ := HD_.alloc (P := Try.prog) 24 z4 (by kernel_rfl)
          have H370 : Hp w [] [.blk p3 (wl t) 24, .blk p7 z4 24, .blk p38 (wl ((t + 1) % K4)) 24, .blk p367 z4 24] w368 := H370
          have hS371 : Hp w [] [.blk p3 (wl t) 24, .blk p7 z4 24, .blk p38 (wl ((t + 1) % K4)) 24] w368 := H370.sub (List.Sublist.cons_cons _ (List.Sublist.cons_cons _ (List.Sublist.cons_cons _ (List.Sublist.cons _ (List.Sublist.slnil)))))
          refine GO.made r369 [2, 5, 19, 20] [(2, pt p7 0), (5, pt p367 0), (19, wv (K4 - 1 - t)), (20, wv ((t + 1) % K4))] (by kernel_rfl) (by kernel_rfl) hS371 ?_
          refine GP.perm [0, 2, 1, 8] (by kernel_rfl) rfl ?_
          rw [← hX]
          exact st165 _ p367 H370
        · skip
          have hS372 : Hp w [] [.blk p3 (wl t) 24, .blk p7 z4 24, .blk p38 (wl ((t + 1) % K4)) 24] wD_ := HD_.sub (List.Sublist.cons_cons _ (List.Sublist.cons_cons _ (List.Sublist.cons_cons _ (List.Sublist.slnil))))
          obtain ⟨p373, w374, r375, H376⟩ := HD_.alloc (P := Try.prog) 24 z4 (by kernel_rfl)
          have H376 : Hp w [] [.blk p3 (wl t) 24, .blk p7 z4 24, .blk p38 (wl ((t + 1) % K4)) 24, .blk p373 z4 24] w374 := H376
          have hS377 : Hp w [] [.blk p3 (wl t) 24, .blk p7 z4 24, .blk p38 (wl ((t + 1) % K4)) 24] w374 := H376.sub (List.Sublist.cons_cons _ (List.Sublist.cons_cons _ (List.Sublist.cons_cons _ (List.Sublist.cons _ (List.Sublist.slnil)))))
          refine GO.made r375 [2, 6, 19, 20] [(2, pt p7 0), (6, pt p373 0), (19, wv (K4 - 1 - t)), (20, wv ((t + 1) % K4))] (by kernel_rfl) (by kernel_rfl) hS377 ?_
          refine GP.perm [0, 2, 1, 9] (by kernel_rfl) rfl ?_
          rw [← hX]
          exact st166 _ p373 H376
      have st162 : ∀ (wD_ : World) (p72 : Nat), Hp w [] [.blk p3 (wl t) 24, .blk p7 z4 24, .blk p38 (wl ((t + 1) % K4)) 24, .blk p72 z4 24] wD_ → X [0, 2, 8] [(2, pt p7 0), (5, pt p72 0), (18, wv t), (20, wv ((t + 1) % K4))] wD_ := by
        intro wD_ p72 HD_
        rw [hX]
        have hS378 : Hp w [] [.blk p3 (wl t) 24, .blk p7 z4 24, .blk p38 (wl ((t + 1) % K4)) 24] wD_ := HD_.sub (List.Sublist.cons_cons _ (List.Sublist.cons_cons _ (List.Sublist.cons_cons _ (List.Sublist.cons _ (List.Sublist.slnil)))))
        refine GP.all2 1 9 (by kernel_rfl) ?_ ?_
        · skip
          have hS379 : Hp w [] [.blk p3 (wl t) 24, .blk p7 z4 24, .blk p38 (wl ((t + 1) % K4)) 24] wD_ := HD_.sub (List.Sublist.cons_cons _ (List.Sublist.cons_cons _ (List.Sublist.cons_cons _ (List.Sublist.cons _ (List.Sublist.slnil)))))
          refine GO.call (Not_calls t ht wD_) (by kernel_rfl) (fun e_ w380 hR => ?_)
          obtain ⟨rfl, H382⟩ := hR
          have H381 : Hp w [] [.blk p3 (wl t) 24, .blk p7 z4 24, .blk p38 (wl ((t + 1) % K4)) 24, .blk p72 z4 24] w380 := HD_.callNil H382
          have hS383 : Hp w [] [.blk p3 (wl t) 24, .blk p7 z4 24, .blk p38 (wl ((t + 1) % K4)) 24] w380 := H381.sub (List.Sublist.cons_cons _ (List.Sublist.cons_cons _ (List.Sublist.cons_cons _ (List.Sublist.cons _ (List.Sublist.slnil)))))
          refine ⟨_, rfl, hS383, [2, 5, 19, 20], [(2, pt p7 0), (5, pt p72 0), (19, wv (K4 - 1 - t)), (20, wv ((t + 1) % K4))], by kernel_rfl, ?_⟩
          refine GP.perm [0, 2, 1, 8] (by kernel_rfl) rfl ?_
          rw [← hX]
          exact st165 _ p72 H381
        · skip
          have hS384 : Hp w [] [.blk p3 (wl t) 24, .blk p7 z4 24, .blk p38 (wl ((t + 1) % K4)) 24] wD_ := HD_.sub (List.Sublist.cons_cons _ (List.Sublist.cons_cons _ (List.Sublist.cons_cons _ (List.Sublist.cons _ (List.Sublist.slnil)))))
          obtain ⟨p385, w386, r387, H388⟩ := HD_.alloc (P := Try.prog) 24 z4 (by kernel_rfl)
          have H388 : Hp w [] [.blk p3 (wl t) 24, .blk p7 z4 24, .blk p38 (wl ((t + 1) % K4)) 24, .blk p72 z4 24, .blk p385 z4 24] w386 := H388
          have hS389 : Hp w [] [.blk p3 (wl t) 24, .blk p7 z4 24, .blk p38 (wl ((t + 1) % K4)) 24] w386 := H388.sub (List.Sublist.cons_cons _ (List.Sublist.cons_cons _ (List.Sublist.cons_cons _ (List.Sublist.cons _ (List.Sublist.cons _ (List.Sublist.slnil))))))
          refine GO.made r387 [2, 5, 6, 18, 20] [(2, pt p7 0), (5, pt p72 0), (6, pt p385 0), (18, wv t), (20, wv ((t + 1) % K4))] (by kernel_rfl) (by kernel_rfl) hS389 ?_
          refine GP.perm [0, 2, 8, 9] (by kernel_rfl) rfl ?_
          rw [← hX]
          exact st167 _ p72 p385 H388
      have st163 : ∀ (wD_ : World) (p77 : Nat), Hp w [] [.blk p3 (wl t) 24, .blk p7 z4 24, .blk p38 (wl ((t + 1) % K4)) 24, .blk p77 z4 24] wD_ → X [0, 2, 9] [(2, pt p7 0), (6, pt p77 0), (18, wv t), (20, wv ((t + 1) % K4))] wD_ := by
        intro wD_ p77 HD_
        rw [hX]
        have hS390 : Hp w [] [.blk p3 (wl t) 24, .blk p7 z4 24, .blk p38 (wl ((t + 1) % K4)) 24] wD_ := HD_.sub (List.Sublist.cons_cons _ (List.Sublist.cons_cons _ (List.Sublist.cons_cons _ (List.Sublist.cons _ (List.Sublist.slnil)))))
        refine GP.all2 1 8 (by kernel_rfl) ?_ ?_
        · skip
          have hS391 : Hp w [] [.blk p3 (wl t) 24, .blk p7 z4 24, .blk p38 (wl ((t + 1) % K4)) 24] wD_ := HD_.sub (List.Sublist.cons_cons _ (List.Sublist.cons_cons _ (List.Sublist.cons_cons _ (List.Sublist.cons _ (List.Sublist.slnil)))))
          refine GO.call (Not_calls t ht wD_) (by kernel_rfl) (fun e_ w392 hR => ?_)
          obtain ⟨rfl, H394⟩ := hR
          have H393 : Hp w [] [.blk p3 (wl t) 24, .blk p7 z4 24, .blk p38 (wl ((t + 1) % K4)) 24, .blk p77 z4 24] w392 := HD_.callNil H394
          have hS395 : Hp w [] [.blk p3 (wl t) 24, .blk p7 z4 24, .blk p38 (wl ((t + 1) % K4)) 24] w392 := H393.sub (List.Sublist.cons_cons _ (List.Sublist.cons_cons _ (List.Sublist.cons_cons _ (List.Sublist.cons _ (List.Sublist.slnil)))))
          refine ⟨_, rfl, hS395, [2, 6, 19, 20], [(2, pt p7 0), (6, pt p77 0), (19, wv (K4 - 1 - t)), (20, wv ((t + 1) % K4))], by kernel_rfl, ?_⟩
          refine GP.perm [0, 2, 1, 9] (by kernel_rfl) rfl ?_
          rw [← hX]
          exact st166 _ p77 H393
        · skip
          have hS396 : Hp w [] [.blk p3 (wl t) 24, .blk p7 z4 24, .blk p38 (wl ((t + 1) % K4)) 24] wD_ := HD_.sub (List.Sublist.cons_cons _ (List.Sublist.cons_cons _ (List.Sublist.cons_cons _ (List.Sublist.cons _ (List.Sublist.slnil)))))
          obtain ⟨p397, w398, r399, H400⟩ := HD_.alloc (P := Try.prog) 24 z4 (by kernel_rfl)
          have H400 : Hp w [] [.blk p3 (wl t) 24, .blk p7 z4 24, .blk p38 (wl ((t + 1) % K4)) 24, .blk p77 z4 24, .blk p397 z4 24] w398 := H400
          have hS401 : Hp w [] [.blk p3 (wl t) 24, .blk p7 z4 24, .blk p38 (wl ((t + 1) % K4)) 24] w398 := H400.sub (List.Sublist.cons_cons _ (List.Sublist.cons_cons _ (List.Sublist.cons_cons _ (List.Sublist.cons _ (List.Sublist.cons _ (List.Sublist.slnil))))))
          refine GO.made r399 [2, 5, 6, 18, 20] [(2, pt p7 0), (5, pt p397 0), (6, pt p77 0), (18, wv t), (20, wv ((t + 1) % K4))] (by kernel_rfl) (by kernel_rfl) hS401 ?_
          have H402 := (Hp.reorder (L' := [.blk p3 (wl t) 24, .blk p7 z4 24, .blk p38 (wl ((t + 1) % K4)) 24, .blk p397 z4 24, .blk p77 z4 24]) H400 (List.Perm.cons _ (List.Perm.cons _ (List.Perm.cons _ (List.Perm.trans (List.Perm.swap _ _ _) (List.Perm.refl _))))))
          refine GP.perm [0, 2, 8, 9] (by kernel_rfl) rfl ?_
          rw [← hX]
          exact st167 _ p397 p77 H402
      have st160 : ∀ (wD_ : World), Hp w [] [.blk p3 (wl t) 24, .blk p7 z4 24, .blk p38 (wl ((t + 1) % K4)) 24] wD_ → X [0, 2] [(2, pt p7 0), (18, wv t), (20, wv ((t + 1) % K4))] wD_ := by
        intro wD_ HD_
        rw [hX]
        have hS403 : Hp w [] [.blk p3 (wl t) 24, .blk p7 z4 24, .blk p38 (wl ((t + 1) % K4)) 24] wD_ := HD_.sub (List.Sublist.cons_cons _ (List.Sublist.cons_cons _ (List.Sublist.cons_cons _ (List.Sublist.slnil))))
        refine GP.all3 1 8 9 (by kernel_rfl) ?_ ?_ ?_
        · skip
          have hS404 : Hp w [] [.blk p3 (wl t) 24, .blk p7 z4 24, .blk p38 (wl ((t + 1) % K4)) 24] wD_ := HD_.sub (List.Sublist.cons_cons _ (List.Sublist.cons_cons _ (List.Sublist.cons_cons _ (List.Sublist.slnil))))
          refine GO.call (Not_calls t ht wD_) (by kernel_rfl) (fun e_ w405 hR => ?_)
          obtain ⟨rfl, H407⟩ := hR
          have H406 : Hp w [] [.blk p3 (wl t) 24, .blk p7 z4 24, .blk p38 (wl ((t + 1) % K4)) 24] w405 := HD_.callNil H407
          have hS408 : Hp w [] [.blk p3 (wl t) 24, .blk p7 z4 24, .blk p38 (wl ((t + 1) % K4)) 24] w405 := H406.sub (List.Sublist.cons_cons _ (List.Sublist.cons_cons _ (List.Sublist.cons_cons _ (List.Sublist.slnil))))
          refine ⟨_, rfl, hS408, [2, 19, 20], [(2, pt p7 0), (19, wv (K4 - 1 - t)), (20, wv ((t + 1) % K4))], by kernel_rfl, ?_⟩
          refine GP.perm [0, 2, 1] (by kernel_rfl) rfl ?_
          rw [← hX]
          exact st161 _ H406
        · skip
          have hS409 : Hp w [] [.blk p3 (wl t) 24, .blk p7 z4 24, .blk p38 (wl ((t + 1) % K4)) 24] wD_ := HD_.sub (List.Sublist.cons_cons _ (List.Sublist.cons_cons _ (List.Sublist.cons_cons _ (List.Sublist.slnil))))
          obtain ⟨p410, w411, r412, H413⟩ := HD_.alloc (P := Try.prog) 24 z4 (by kernel_rfl)
          have H413 : Hp w [] [.blk p3 (wl t) 24, .blk p7 z4 24, .blk p38 (wl ((t + 1) % K4)) 24, .blk p410 z4 24] w411 := H413
          have hS414 : Hp w [] [.blk p3 (wl t) 24, .blk p7 z4 24, .blk p38 (wl ((t + 1) % K4)) 24] w411 := H413.sub (List.Sublist.cons_cons _ (List.Sublist.cons_cons _ (List.Sublist.cons_cons _ (List.Sublist.cons _ (List.Sublist.slnil)))))
          refine GO.made r412 [2, 5, 18, 20] [(2, pt p7 0), (5, pt p410 0), (18, wv t), (20, wv ((t + 1) % K4))] (by kernel_rfl) (by kernel_rfl) hS414 ?_
          refine GP.perm [0, 2, 8] (by kernel_rfl) rfl ?_
          rw [← hX]
          exact st162 _ p410 H413
        · skip
          have hS415 : Hp w [] [.blk p3 (wl t) 24, .blk p7 z4 24, .blk p38 (wl ((t + 1) % K4)) 24] wD_ := HD_.sub (List.Sublist.cons_cons _ (List.Sublist.cons_cons _ (List.Sublist.cons_cons _ (List.Sublist.slnil))))
          obtain ⟨p416, w417, r418, H419⟩ := HD_.alloc (P := Try.prog) 24 z4 (by kernel_rfl)
          have H419 : Hp w [] [.blk p3 (wl t) 24, .blk p7 z4 24, .blk p38 (wl ((t + 1) % K4)) 24, .blk p416 z4 24] w417 := H419
          have hS420 : Hp w [] [.blk p3 (wl t) 24, .blk p7 z4 24, .blk p38 (wl ((t + 1) % K4)) 24] w417 := H419.sub (List.Sublist.cons_cons _ (List.Sublist.cons_cons _ (List.Sublist.cons_cons _ (List.Sublist.cons _ (List.Sublist.slnil)))))
          refine GO.made r418 [2, 6, 18, 20] [(2, pt p7 0), (6, pt p416 0), (18, wv t), (20, wv ((t + 1) % K4))] (by kernel_rfl) (by kernel_rfl) hS420 ?_
          refine GP.perm [0, 2, 9] (by kernel_rfl) rfl ?_
          rw [← hX]
          exact st163 _ p416 H419
      exact st160 _ H65
    · skip
      have hb62f := of_decide_eq_true hb62
      have hov1 := hb62f
      refine G.yes rfl ?_
      refine G.seqK fun K421 hK422 => ?_
      refine G.region ?_
      refine GL.call (j := 1) (Of_calls 1 (by decide) w54) (by kernel_rfl) rfl (fun e_ w423 hR => ?_)
      obtain ⟨he_, H425⟩ := hR
      subst he_
      have H424 : Hp w [] [.blk p3 (wl t) 24, .blk p7 z4 24, .blk p38 (wl ((t + 1) % K4)) 24] w423 := H56.callNil H425
      refine ⟨_, rfl, [2, 16], [(2, pt p7 0), (16, wv 1)], by kernel_rfl, ?_⟩
      obtain ⟨w426, r427, H428⟩ := H424.stA (P := Try.prog) (o := 0) (vs := (wl 1)) (ty := 24) (m := 4) 1 rfl (by kernel_rfl) rfl (by first | decide | simp) (wl_one _)
      have H428 : Hp w [] [.blk p3 (wl t) 24, .blk p7 (wl 1) 24, .blk p38 (wl ((t + 1) % K4)) 24] w426 := H428
      refine GL.semU (j := 2) r427 [2] [(2, pt p7 0)] (by kernel_rfl) rfl rfl rfl ?_
      refine GL.k rfl hK422 (fun _ _ h => h) ?_
      refine G.ret ?_
      intro F_ hF_ hM_
      refine hRet _ _ (bodyPost_1 rfl (RV.cell rfl (H428.ldA (o := 0) (ty := 24) (m := 4) (sub := (wl 1)) 1 rfl (by kernel_rfl) rfl rfl)) ?_ F_ hF_ hM_)
      have hN : workV t = 1 := work_one (by omega)
      rw [hN]
      exact ⟨rfl, H428.sub (List.nil_sublist _)⟩
  have st50 : ∀ (wD_ : World), Hp w [] [.blk p3 (wl t) 24, .blk p7 z4 24] wD_ → X [0, 1, 2, 3, 4, 5] [(1, pt p3 0), (2, pt p7 0), (13, wv ((t + 1) % K4)), (14, .bool (decide (K4 ≤ t + 1)))] wD_ := by
    intro wD_ HD_
    rw [hX]
    have hS429 : Hp w [] [.blk p3 (wl t) 24, .blk p7 z4 24] wD_ := HD_.sub (List.Sublist.cons_cons _ (List.Sublist.cons_cons _ (List.Sublist.slnil)))
    refine GP.all1 6 (by kernel_rfl) ?_
    · skip
      have hS430 : Hp w [] [.blk p3 (wl t) 24, .blk p7 z4 24] wD_ := HD_.sub (List.Sublist.cons_cons _ (List.Sublist.cons_cons _ (List.Sublist.slnil)))
      obtain ⟨p431, w432, r433, H434⟩ := HD_.alloc (P := Try.prog) 24 z4 (by kernel_rfl)
      have H434 : Hp w [] [.blk p3 (wl t) 24, .blk p7 z4 24, .blk p431 z4 24] w432 := H434
      have hS435 : Hp w [] [.blk p3 (wl t) 24, .blk p7 z4 24] w432 := H434.sub (List.Sublist.cons_cons _ (List.Sublist.cons_cons _ (List.Sublist.cons _ (List.Sublist.slnil))))
      refine GO.made r433 [1, 2, 3, 13, 14] [(1, pt p3 0), (2, pt p7 0), (3, pt p431 0), (13, wv ((t + 1) % K4)), (14, .bool (decide (K4 ≤ t + 1)))] (by kernel_rfl) (by kernel_rfl) hS435 ?_
      refine GP.perm [0, 1, 2, 3, 4, 5, 6] (by kernel_rfl) rfl ?_
      rw [← hX]
      exact st52 _ p431 H434
  have st51 : ∀ (wD_ : World) (p29 : Nat), Hp w [] [.blk p3 (wl t) 24, .blk p7 z4 24, .blk p29 z4 24] wD_ → X [0, 1, 6] [(1, pt p3 0), (2, pt p7 0), (3, pt p29 0), (10, wv t), (11, wv 1)] wD_ := by
    intro wD_ p29 HD_
    rw [hX]
    have hS436 : Hp w [] [.blk p3 (wl t) 24, .blk p7 z4 24] wD_ := HD_.sub (List.Sublist.cons_cons _ (List.Sublist.cons_cons _ (List.Sublist.cons _ (List.Sublist.slnil))))
    refine GP.all1 2 (by kernel_rfl) ?_
    · skip
      have hS437 : Hp w [] [.blk p3 (wl t) 24, .blk p7 z4 24] wD_ := HD_.sub (List.Sublist.cons_cons _ (List.Sublist.cons_cons _ (List.Sublist.cons _ (List.Sublist.slnil))))
      refine GO.call (Add_calls t 1 ht (by decide) wD_) (by kernel_rfl) (fun e_ w438 hR => ?_)
      obtain ⟨rfl, H440⟩ := hR
      have H439 : Hp w [] [.blk p3 (wl t) 24, .blk p7 z4 24, .blk p29 z4 24] w438 := HD_.callNil H440
      have hS441 : Hp w [] [.blk p3 (wl t) 24, .blk p7 z4 24] w438 := H439.sub (List.Sublist.cons_cons _ (List.Sublist.cons_cons _ (List.Sublist.cons _ (List.Sublist.slnil))))
      refine ⟨_, rfl, hS441, [1, 2, 3, 12], [(1, pt p3 0), (2, pt p7 0), (3, pt p29 0), (12, .tuple #[wv ((t + 1) % K4), .bool (decide (K4 ≤ t + 1))])], by kernel_rfl, ?_⟩
      refine GP.run [3, 4, 5] [1, 2, 3, 13, 14] [(1, pt p3 0), (2, pt p7 0), (3, pt p29 0), (13, wv ((t + 1) % K4)), (14, .bool (decide (K4 ≤ t + 1)))] [0, 1, 6, 2, 3, 4, 5] (by kernel_rfl) rfl hS441 ?_
      refine GP.perm [0, 1, 2, 3, 4, 5, 6] (by kernel_rfl) rfl ?_
      rw [← hX]
      exact st52 _ p29 H439
  have st48 : ∀ (wD_ : World), Hp w [] [.blk p3 (wl t) 24, .blk p7 z4 24] wD_ → X [0, 1] [(1, pt p3 0), (2, pt p7 0), (10, wv t), (11, wv 1)] wD_ := by
    intro wD_ HD_
    rw [hX]
    have hS442 : Hp w [] [.blk p3 (wl t) 24, .blk p7 z4 24] wD_ := HD_.sub (List.Sublist.cons_cons _ (List.Sublist.cons_cons _ (List.Sublist.slnil)))
    refine GP.all2 2 6 (by kernel_rfl) ?_ ?_
    · skip
      have hS443 : Hp w [] [.blk p3 (wl t) 24, .blk p7 z4 24] wD_ := HD_.sub (List.Sublist.cons_cons _ (List.Sublist.cons_cons _ (List.Sublist.slnil)))
      refine GO.call (Add_calls t 1 ht (by decide) wD_) (by kernel_rfl) (fun e_ w444 hR => ?_)
      obtain ⟨rfl, H446⟩ := hR
      have H445 : Hp w [] [.blk p3 (wl t) 24, .blk p7 z4 24] w444 := HD_.callNil H446
      have hS447 : Hp w [] [.blk p3 (wl t) 24, .blk p7 z4 24] w444 := H445.sub (List.Sublist.cons_cons _ (List.Sublist.cons_cons _ (List.Sublist.slnil)))
      refine ⟨_, rfl, hS447, [1, 2, 12], [(1, pt p3 0), (2, pt p7 0), (12, .tuple #[wv ((t + 1) % K4), .bool (decide (K4 ≤ t + 1))])], by kernel_rfl, ?_⟩
      refine GP.run [3, 4, 5] [1, 2, 13, 14] [(1, pt p3 0), (2, pt p7 0), (13, wv ((t + 1) % K4)), (14, .bool (decide (K4 ≤ t + 1)))] [0, 1, 2, 3, 4, 5] (by kernel_rfl) rfl hS447 ?_
      refine GP.perm [0, 1, 2, 3, 4, 5] (by kernel_rfl) rfl ?_
      rw [← hX]
      exact st50 _ H445
    · skip
      have hS448 : Hp w [] [.blk p3 (wl t) 24, .blk p7 z4 24] wD_ := HD_.sub (List.Sublist.cons_cons _ (List.Sublist.cons_cons _ (List.Sublist.slnil)))
      obtain ⟨p449, w450, r451, H452⟩ := HD_.alloc (P := Try.prog) 24 z4 (by kernel_rfl)
      have H452 : Hp w [] [.blk p3 (wl t) 24, .blk p7 z4 24, .blk p449 z4 24] w450 := H452
      have hS453 : Hp w [] [.blk p3 (wl t) 24, .blk p7 z4 24] w450 := H452.sub (List.Sublist.cons_cons _ (List.Sublist.cons_cons _ (List.Sublist.cons _ (List.Sublist.slnil))))
      refine GO.made r451 [1, 2, 3, 10, 11] [(1, pt p3 0), (2, pt p7 0), (3, pt p449 0), (10, wv t), (11, wv 1)] (by kernel_rfl) (by kernel_rfl) hS453 ?_
      refine GP.perm [0, 1, 6] (by kernel_rfl) rfl ?_
      rw [← hX]
      exact st51 _ p449 H452
  have st49 : ∀ (wD_ : World) (p20 : Nat), Hp w [] [.blk p3 (wl t) 24, .blk p7 z4 24, .blk p20 z4 24] wD_ → X [0, 6] [(1, pt p3 0), (2, pt p7 0), (3, pt p20 0), (10, wv t)] wD_ := by
    intro wD_ p20 HD_
    rw [hX]
    have hS454 : Hp w [] [.blk p3 (wl t) 24, .blk p7 z4 24] wD_ := HD_.sub (List.Sublist.cons_cons _ (List.Sublist.cons_cons _ (List.Sublist.cons _ (List.Sublist.slnil))))
    refine GP.all1 1 (by kernel_rfl) ?_
    · skip
      have hS455 : Hp w [] [.blk p3 (wl t) 24, .blk p7 z4 24] wD_ := HD_.sub (List.Sublist.cons_cons _ (List.Sublist.cons_cons _ (List.Sublist.cons _ (List.Sublist.slnil))))
      refine GO.call (Of_calls 1 (by decide) wD_) (by kernel_rfl) (fun e_ w456 hR => ?_)
      obtain ⟨rfl, H458⟩ := hR
      have H457 : Hp w [] [.blk p3 (wl t) 24, .blk p7 z4 24, .blk p20 z4 24] w456 := HD_.callNil H458
      have hS459 : Hp w [] [.blk p3 (wl t) 24, .blk p7 z4 24] w456 := H457.sub (List.Sublist.cons_cons _ (List.Sublist.cons_cons _ (List.Sublist.cons _ (List.Sublist.slnil))))
      refine ⟨_, rfl, hS459, [1, 2, 3, 10, 11], [(1, pt p3 0), (2, pt p7 0), (3, pt p20 0), (10, wv t), (11, wv 1)], by kernel_rfl, ?_⟩
      refine GP.perm [0, 1, 6] (by kernel_rfl) rfl ?_
      rw [← hX]
      exact st51 _ p20 H457
  have st47 : ∀ (wD_ : World), Hp w [] [.blk p3 (wl t) 24, .blk p7 z4 24] wD_ → X [0] [(1, pt p3 0), (2, pt p7 0), (10, wv t)] wD_ := by
    intro wD_ HD_
    rw [hX]
    have hS460 : Hp w [] [.blk p3 (wl t) 24, .blk p7 z4 24] wD_ := HD_.sub (List.Sublist.cons_cons _ (List.Sublist.cons_cons _ (List.Sublist.slnil)))
    refine GP.all2 1 6 (by kernel_rfl) ?_ ?_
    · skip
      have hS461 : Hp w [] [.blk p3 (wl t) 24, .blk p7 z4 24] wD_ := HD_.sub (List.Sublist.cons_cons _ (List.Sublist.cons_cons _ (List.Sublist.slnil)))
      refine GO.call (Of_calls 1 (by decide) wD_) (by kernel_rfl) (fun e_ w462 hR => ?_)
      obtain ⟨rfl, H464⟩ := hR
      have H463 : Hp w [] [.blk p3 (wl t) 24, .blk p7 z4 24] w462 := HD_.callNil H464
      have hS465 : Hp w [] [.blk p3 (wl t) 24, .blk p7 z4 24] w462 := H463.sub (List.Sublist.cons_cons _ (List.Sublist.cons_cons _ (List.Sublist.slnil)))
      refine ⟨_, rfl, hS465, [1, 2, 10, 11], [(1, pt p3 0), (2, pt p7 0), (10, wv t), (11, wv 1)], by kernel_rfl, ?_⟩
      refine GP.perm [0, 1] (by kernel_rfl) rfl ?_
      rw [← hX]
      exact st48 _ H463
    · skip
      have hS466 : Hp w [] [.blk p3 (wl t) 24, .blk p7 z4 24] wD_ := HD_.sub (List.Sublist.cons_cons _ (List.Sublist.cons_cons _ (List.Sublist.slnil)))
      obtain ⟨p467, w468, r469, H470⟩ := HD_.alloc (P := Try.prog) 24 z4 (by kernel_rfl)
      have H470 : Hp w [] [.blk p3 (wl t) 24, .blk p7 z4 24, .blk p467 z4 24] w468 := H470
      have hS471 : Hp w [] [.blk p3 (wl t) 24, .blk p7 z4 24] w468 := H470.sub (List.Sublist.cons_cons _ (List.Sublist.cons_cons _ (List.Sublist.cons _ (List.Sublist.slnil))))
      refine GO.made r469 [1, 2, 3, 10] [(1, pt p3 0), (2, pt p7 0), (3, pt p467 0), (10, wv t)] (by kernel_rfl) (by kernel_rfl) hS471 ?_
      refine GP.perm [0, 6] (by kernel_rfl) rfl ?_
      rw [← hX]
      exact st49 _ p467 H470
  exact st47 _ H13
/-- The target of bits: its number, or 0; why not. -/
def decT (b : Nat) : Nat := if 3 ≤ b / 16777216 then b % 8388608 * 2 ^ (8 * (b / 16777216 - 3)) % K4 else b % 8388608 / 2 ^ (8 * (3 - b / 16777216))
def decE (b : Nat) : Nat := if b / 8388608 % 2 = 1 ∧ b % 8388608 ≠ 0 then 6 else if 3 < b / 16777216 ∧ 256 < bl (b % 8388608) + 8 * (b / 16777216 - 3) then 6 else if decT b = 0 then 6 else 0
def decR (b : Nat) : Nat := if decE b = 0 then decT b else 0
theorem decT_lt (b : Nat) : decT b < K4 := by
  unfold decT
  split
  · exact Nat.mod_lt _ (by decide)
  · refine Nat.lt_of_le_of_lt (Nat.div_le_self _ _) (Nat.lt_trans (Nat.mod_lt _ (by decide)) (by decide))
theorem decR_lt (b : Nat) : decR b < K4 := by
  unfold decR
  split
  · exact decT_lt b
  · decide
theorem u32_and23 {b : Nat} (hb : b < 4294967296) : Go.bits .and .u32 (b : Int) 8388607 = ((b % 8388608 : Nat) : Int) := by
  have h := (bits_nat .u32 32 (by decide) (fun n h0 h1 => by rw [IntKind.wrap_u32]; omega) b 8388607 (by simpa using hb) (by decide)).1
  rw [show (8388607 : Int) = ((8388607 : Nat) : Int) from rfl, h, show (8388607 : Nat) = 2 ^ 23 - 1 from rfl, Nat.and_two_pow_sub_one_eq_mod]
theorem u32_bit23 {b : Nat} (hb : b < 4294967296) : Go.bits .and .u32 (b : Int) 8388608 = ((b / 8388608 % 2 * 8388608 : Nat) : Int) := by
  have h := (bits_nat .u32 32 (by decide) (fun n h0 h1 => by rw [IntKind.wrap_u32]; omega) b 8388608 (by simpa using hb) (by decide)).1
  rw [show (8388608 : Int) = ((8388608 : Nat) : Int) from rfl, h]
  congr 1
  rw [show (8388608 : Nat) = 2 ^ 23 from rfl]
  refine Nat.eq_of_testBit_eq (fun j => ?_)
  rw [Nat.testBit_and, Nat.testBit_two_pow]
  have h2 : b / 2 ^ 23 % 2 < 2 := Nat.mod_lt _ (by decide)
  have hb23 : Nat.testBit b 23 = decide (b / 2 ^ 23 % 2 = 1) := Nat.testBit_eq_decide_div_mod_eq
  rcases (show b / 2 ^ 23 % 2 = 0 ∨ b / 2 ^ 23 % 2 = 1 by omega) with h3 | h3
  · rw [h3, Nat.zero_mul, Nat.zero_testBit]
    by_cases hj : 23 = j
    · subst hj
      rw [hb23, h3]
      rfl
    · rw [decide_eq_false hj, Bool.and_false]
  · rw [h3, Nat.one_mul, Nat.testBit_two_pow]
    by_cases hj : 23 = j
    · subst hj
      rw [hb23, h3]
      rfl
    · rw [decide_eq_false hj, Bool.and_false]
theorem Decode_big (b : Nat) (hb : b < 4294967296) (hX : 3 ≤ b / 16777216) (w : World) : Calls Try.prog 19 #[.int .u32 (b : Int)] w fun e w' => e = .returned (.tuple #[wv (decR b), .int .i64 ((decE b : Nat) : Int)]) ∧ Hp w [] [] w' := by
  have hMX : MX = 4611686018427387904 := rfl
  have hK0 : K = 18446744073709551616 := rfl
  have hK40 : K4 = 115792089237316195423570985008687907853269984665640564039457584007913129639936 := rfl
  have hbl := bl_le (k := 23) (show b % 8388608 < 2 ^ 23 from Nat.mod_lt _ (by decide))
  refine calls_G (args := [.int .u32 (b : Int)]) Try.func19 rfl Try.ntmps19 rfl ?_
  intro Q0 hRet hNor hPan
  have H := Hp.start w
  have H : Hp w [] [] w := H
  refine G.seqK fun K1 hK2 => ?_
  refine G.region ?_
  obtain ⟨p3, w4, r5, H6⟩ := H.alloc (P := Try.prog) 24 z4 (by kernel_rfl)
  have H6 : Hp w [] [.blk p3 z4 24] w4 := H6
  refine GL.sem (j := 1) (r5) [0, 2] [(0, .int .u32 (b : Int)), (2, pt p3 0)] (by kernel_rfl) (by kernel_rfl) rfl ?_
  refine GL.run (j := 2) 1 [0, 2] [(0, .int .u32 (b : Int)), (2, pt p3 0)] (by kernel_rfl) rfl ?_
  refine GL.k rfl hK2 (fun _ _ h => h) ?_
  refine G.seqK fun K7 hK8 => ?_
  refine G.region ?_
  refine GL.run (j := 6) 6 [0, 2, 9, 12] [(0, .int .u32 (b : Int)), (2, pt p3 0), (9, .int .i64 (IntKind.i64.wrap (Int.fdiv (b : Int) (2 ^ 24)))), (12, .int .u64 (IntKind.u64.wrap (Go.bits .and .u32 (b : Int) 8388607)))] (by kernel_rfl) rfl ?_
  have e9 : (Int.fdiv (b : Int) (2 ^ 24)) = ((b / 16777216 : Nat) : Int) := n_shr b 24
  have e10 : (IntKind.i64.wrap ((b / 16777216 : Nat) : Int)) = ((b / 16777216 : Nat) : Int) := in_i64 (by omega)
  have e11 : (Go.bits .and .u32 (b : Int) 8388607) = ((b % 8388608 : Nat) : Int) := u32_and23 hb
  have e12 : (IntKind.u64.wrap ((b % 8388608 : Nat) : Int)) = ((b % 8388608 : Nat) : Int) := in_u64 (by omega)
  refine GL.eq (M' := [(0, .int .u32 (b : Int)), (2, pt p3 0), (9, .int .i64 ((b / 16777216 : Nat) : Int)), (12, .int .u64 ((b % 8388608 : Nat) : Int))]) (by rw [e9, e10, e11, e12]) ?_
  clear e9 e10 e11 e12
  refine GL.call (j := 7) (Of_calls (b % 8388608) (show b % 8388608 < K from Nat.lt_trans (Nat.mod_lt _ (by decide : 0 < 8388608)) (by decide)) w4) (by kernel_rfl) rfl (fun e_ w13 hR => ?_)
  obtain ⟨he_, H15⟩ := hR
  obtain ⟨n16, hn17⟩ : ∃ v : Nat, v = b % 8388608 := ⟨_, rfl⟩
  rw [← hn17] at he_
  have n16l : n16 < K4 := by rw [hn17]; exact Nat.lt_trans (show b % 8388608 < K from Nat.lt_trans (Nat.mod_lt _ (by decide : 0 < 8388608)) (by decide)) (by decide)
  subst he_
  have H14 : Hp w [] [.blk p3 z4 24] w13 := H6.callNil H15
  refine ⟨_, rfl, [0, 2, 9, 13], [(0, .int .u32 (b : Int)), (2, pt p3 0), (9, .int .i64 ((b / 16777216 : Nat) : Int)), (13, wv n16)], by kernel_rfl, ?_⟩
  obtain ⟨p18, w19, r20, H21⟩ := H14.alloc (P := Try.prog) 24 z4 (by kernel_rfl)
  have H21 : Hp w [] [.blk p3 z4 24, .blk p18 z4 24] w19 := H21
  refine GL.sem (j := 8) (r20) [0, 2, 5, 9, 13] [(0, .int .u32 (b : Int)), (2, pt p3 0), (5, pt p18 0), (9, .int .i64 ((b / 16777216 : Nat) : Int)), (13, wv n16)] (by kernel_rfl) (by kernel_rfl) rfl ?_
  refine GL.run (j := 9) 1 [0, 2, 4, 5, 13] [(0, .int .u32 (b : Int)), (2, pt p3 0), (4, .int .i64 ((b / 16777216 : Nat) : Int)), (5, pt p18 0), (13, wv n16)] (by kernel_rfl) rfl ?_
  obtain ⟨w22, r23, H24⟩ := H21.stA (P := Try.prog) (o := 0) (vs := (wl n16)) (ty := 24) (m := 4) 1 rfl (by kernel_rfl) rfl (by first | decide | simp) (wl_one _)
  have H24 : Hp w [] [.blk p3 z4 24, .blk p18 (wl n16) 24] w22 := H24
  refine GL.semU (j := 10) r23 [0, 2, 4, 5] [(0, .int .u32 (b : Int)), (2, pt p3 0), (4, .int .i64 ((b / 16777216 : Nat) : Int)), (5, pt p18 0)] (by kernel_rfl) rfl rfl rfl ?_
  refine GL.k rfl hK8 (fun _ _ h => h) ?_
  refine G.seqK fun K25 hK26 => ?_
  refine G.seqK fun K27 hK28 => ?_
  refine G.region ?_
  refine GL.run (j := 4) 4 [2, 4, 5, 17] [(2, pt p3 0), (4, .int .i64 ((b / 16777216 : Nat) : Int)), (5, pt p18 0), (17, .bool ((Go.bits .and .u32 (b : Int) 8388608) != 0))] (by kernel_rfl) rfl ?_
  have e29 : (Go.bits .and .u32 (b : Int) 8388608) = ((b / 8388608 % 2 * 8388608 : Nat) : Int) := u32_bit23 hb
  refine GL.eq (M' := [(2, pt p3 0), (4, .int .i64 ((b / 16777216 : Nat) : Int)), (5, pt p18 0), (17, .bool (((b / 8388608 % 2 * 8388608 : Nat) : Int) != 0))]) (by rw [e29]) ?_
  clear e29
  cases hb30 : (((b / 8388608 % 2 * 8388608 : Nat) : Int) != 0)
  · skip
    have hb30f : ((b / 8388608 % 2 * 8388608 : Nat) : Int) = 0 := by simpa using hb30
    refine GL.run (j := 8) 4 [2, 4, 5, 21] [(2, pt p3 0), (4, .int .i64 ((b / 16777216 : Nat) : Int)), (5, pt p18 0), (21, .bool false)] (by kernel_rfl) rfl ?_
    refine GL.k rfl hK28 (fun _ _ h => h) ?_
    refine G.no rfl ?_
    refine G.skipK hK26 (fun _ _ h => h) ?_
    refine G.seqK fun K31 hK32 => ?_
    refine G.seqK fun K33 hK34 => ?_
    refine G.region ?_
    refine GL.run (j := 3) 3 [2, 4, 5, 25] [(2, pt p3 0), (4, .int .i64 ((b / 16777216 : Nat) : Int)), (5, pt p18 0), (25, .bool (decide (3 < ((b / 16777216 : Nat) : Int))))] (by kernel_rfl) rfl ?_
    cases hb35 : (decide (3 < ((b / 16777216 : Nat) : Int)))
    · skip
      have hb35f := of_decide_eq_false hb35
      refine GL.run (j := 11) 8 [2, 4, 5, 33] [(2, pt p3 0), (4, .int .i64 ((b / 16777216 : Nat) : Int)), (5, pt p18 0), (33, .bool false)] (by kernel_rfl) rfl ?_
      refine GL.k rfl hK34 (fun _ _ h => h) ?_
      refine G.no rfl ?_
      refine G.skipK hK32 (fun _ _ h => h) ?_
      refine G.seqK fun K36 hK37 => ?_
      refine G.region ?_
      refine GL.sem (j := 1) (H24.ldA (o := 0) (ty := 24) (m := 4) (sub := (wl n16)) 1 rfl (by kernel_rfl) rfl rfl) [2, 4, 35] [(2, pt p3 0), (4, .int .i64 ((b / 16777216 : Nat) : Int)), (35, wv n16)] (by kernel_rfl) (by kernel_rfl) rfl ?_
      refine GL.run (j := 4) 3 [2, 35, 38] [(2, pt p3 0), (35, wv n16), (38, .int .i64 (IntKind.i64.wrap (8 * (IntKind.i64.wrap (((b / 16777216 : Nat) : Int) - 3)))))] (by kernel_rfl) rfl ?_
      have e38 : (IntKind.i64.wrap (((b / 16777216 : Nat) : Int) - 3)) = ((b / 16777216 - 3 : Nat) : Int) := by rw [in_i64 (by omega)]; omega
      have e39 : (IntKind.i64.wrap (8 * ((b / 16777216 - 3 : Nat) : Int))) = ((8 * (b / 16777216 - 3) : Nat) : Int) := by rw [in_i64 (by omega)]; omega
      refine GL.eq (M' := [(2, pt p3 0), (35, wv n16), (38, .int .i64 ((8 * (b / 16777216 - 3) : Nat) : Int))]) (by rw [e38, e39]) ?_
      clear e38 e39
      refine GL.call (j := 5) (Left_calls n16 (8 * (b / 16777216 - 3)) n16l w22) (by kernel_rfl) rfl (fun e_ w40 hR => ?_)
      obtain ⟨he_, H42⟩ := hR
      obtain ⟨n43, hn44⟩ : ∃ v : Nat, v = n16 * 2 ^ (8 * (b / 16777216 - 3)) % K4 := ⟨_, rfl⟩
      rw [← hn44] at he_
      have n43l : n43 < K4 := by rw [hn44]; exact Nat.mod_lt _ (by decide)
      subst he_
      have H41 : Hp w [] [.blk p3 z4 24, .blk p18 (wl n16) 24] w40 := H24.callNil H42
      refine ⟨_, rfl, [2, 39], [(2, pt p3 0), (39, wv n43)], by kernel_rfl, ?_⟩
      obtain ⟨p45, w46, r47, H48⟩ := H41.alloc (P := Try.prog) 24 z4 (by kernel_rfl)
      have H48 : Hp w [] [.blk p3 z4 24, .blk p18 (wl n16) 24, .blk p45 z4 24] w46 := H48
      refine GL.sem (j := 6) (r47) [2, 6, 39] [(2, pt p3 0), (6, pt p45 0), (39, wv n43)] (by kernel_rfl) (by kernel_rfl) rfl ?_
      obtain ⟨w49, r50, H51⟩ := H48.stA (P := Try.prog) (o := 0) (vs := (wl n43)) (ty := 24) (m := 4) 2 rfl (by kernel_rfl) rfl (by first | decide | simp) (wl_one _)
      have H51 : Hp w [] [.blk p3 z4 24, .blk p18 (wl n16) 24, .blk p45 (wl n43) 24] w49 := H51
      refine GL.semU (j := 7) r50 [2, 6] [(2, pt p3 0), (6, pt p45 0)] (by kernel_rfl) rfl rfl rfl ?_
      refine GL.k rfl hK37 (fun _ _ h => h) ?_
      refine G.seqK fun K52 hK53 => ?_
      refine G.seqK fun K54 hK55 => ?_
      refine G.region ?_
      refine GL.sem (j := 1) (H51.ldA (o := 0) (ty := 24) (m := 4) (sub := (wl n43)) 2 rfl (by kernel_rfl) rfl rfl) [2, 6, 40] [(2, pt p3 0), (6, pt p45 0), (40, wv n43)] (by kernel_rfl) (by kernel_rfl) rfl ?_
      refine GL.run (j := 2) 1 [2, 6, 40, 41] [(2, pt p3 0), (6, pt p45 0), (40, wv n43), (41, .agg #[.int .u64 0, .int .u64 0, .int .u64 0, .int .u64 0])] (by kernel_rfl) rfl ?_
      refine GL.sem (j := 3) (run_arr_eql (P := Try.prog) (t := 24) (n := 4) (k := .u64) (x := (.tmp 40)) (y := (.tmp 41)) (by kernel_rfl) [(wd n43 0 : Int), (wd n43 1 : Int), (wd n43 2 : Int), (wd n43 3 : Int)] [0, 0, 0, 0] rfl rfl _) [2, 6, 42] [(2, pt p3 0), (6, pt p45 0), (42, .bool (decide (([(wd n43 0 : Int), (wd n43 1 : Int), (wd n43 2 : Int), (wd n43 3 : Int)] : List Int) = [0, 0, 0, 0])))] (by kernel_rfl) (by kernel_rfl) rfl ?_
      refine GL.k rfl hK55 (fun _ _ h => h) ?_
      cases hb56 : (decide (([(wd n43 0 : Int), (wd n43 1 : Int), (wd n43 2 : Int), (wd n43 3 : Int)] : List Int) = [0, 0, 0, 0]))
      · skip
        have hb56f := of_decide_eq_false hb56
        have hz : n43 ≠ 0 := fun h => hb56f ((wv_eq (y := 0) n43l (by decide)).2 h)
        have hT : decT b = n43 := by rw [decT, if_pos (by omega), ← hn17, ← hn44]
        refine G.no rfl ?_
        refine G.skipK hK53 (fun _ _ h => h) ?_
        refine G.seqK fun K57 hK58 => ?_
        refine G.region ?_
        refine GL.sem (j := 1) (H51.ldA (o := 0) (ty := 24) (m := 4) (sub := (wl n43)) 2 rfl (by kernel_rfl) rfl rfl) [2, 44] [(2, pt p3 0), (44, wv n43)] (by kernel_rfl) (by kernel_rfl) rfl ?_
        obtain ⟨w59, r60, H61⟩ := H51.stA (P := Try.prog) (o := 0) (vs := (wl n43)) (ty := 24) (m := 4) 0 rfl (by kernel_rfl) rfl (by first | decide | simp) (wl_one _)
        have H61 : Hp w [] [.blk p3 (wl n43) 24, .blk p18 (wl n16) 24, .blk p45 (wl n43) 24] w59 := H61
        refine GL.semU (j := 2) r60 [2] [(2, pt p3 0)] (by kernel_rfl) rfl rfl rfl ?_
        refine GL.run (j := 3) 1 [2, 3] [(2, pt p3 0), (3, .int .i64 0)] (by kernel_rfl) rfl ?_
        refine GL.k rfl hK58 (fun _ _ h => h) ?_
        refine G.ret ?_
        intro F_ hF_ hM_
        refine hRet _ _ (bodyPost_2 rfl (RV.cell rfl (H61.ldA (o := 0) (ty := 24) (m := 4) (sub := (wl n43)) 0 rfl (by kernel_rfl) rfl rfl)) (RV.tmp rfl) ?_ F_ hF_ hM_)
        have cE : decE b = 0 := by rw [decE, if_neg (by omega), if_neg (by omega), if_neg (by rw [hT]; exact hz)]
        have cR : decR b = n43 := by rw [decR, if_pos cE, hT]
        rw [cE, cR]
        exact ⟨rfl, H61.sub (List.nil_sublist _)⟩
      · skip
        have hb56f := of_decide_eq_true hb56
        have hz : n43 = 0 := (wv_eq (y := 0) n43l (by decide)).1 hb56f
        have hT : decT b = n43 := by rw [decT, if_pos (by omega), ← hn17, ← hn44]
        refine G.yes rfl ?_
        refine G.seqK fun K62 hK63 => ?_
        refine G.region ?_
        refine GL.sem (j := 1) (H51.ldA (o := 0) (ty := 24) (m := 4) (sub := (wl n43)) 2 rfl (by kernel_rfl) rfl rfl) [2, 43] [(2, pt p3 0), (43, wv n43)] (by kernel_rfl) (by kernel_rfl) rfl ?_
        obtain ⟨w64, r65, H66⟩ := H51.stA (P := Try.prog) (o := 0) (vs := (wl n43)) (ty := 24) (m := 4) 0 rfl (by kernel_rfl) rfl (by first | decide | simp) (wl_one _)
        have H66 : Hp w [] [.blk p3 (wl n43) 24, .blk p18 (wl n16) 24, .blk p45 (wl n43) 24] w64 := H66
        refine GL.semU (j := 2) r65 [2] [(2, pt p3 0)] (by kernel_rfl) rfl rfl rfl ?_
        refine GL.run (j := 3) 1 [2, 3] [(2, pt p3 0), (3, .int .i64 6)] (by kernel_rfl) rfl ?_
        refine GL.k rfl hK63 (fun _ _ h => h) ?_
        refine G.ret ?_
        intro F_ hF_ hM_
        refine hRet _ _ (bodyPost_2 rfl (RV.cell rfl (H66.ldA (o := 0) (ty := 24) (m := 4) (sub := (wl n43)) 0 rfl (by kernel_rfl) rfl rfl)) (RV.tmp rfl) ?_ F_ hF_ hM_)
        have cE : decE b = 6 := by
          rw [decE, if_neg (by omega), if_neg (by omega), if_pos (by rw [hT]; exact hz)]
        have cR : decR b = 0 := by rw [decR, if_neg (by omega)]
        rw [show n43 = 0 from hz]
        rw [cE, cR]
        exact ⟨rfl, H66.sub (List.nil_sublist _)⟩
    · skip
      have hb35f := of_decide_eq_true hb35
      refine GL.sem (j := 4) (H24.ldA (o := 0) (ty := 24) (m := 4) (sub := (wl n16)) 1 rfl (by kernel_rfl) rfl rfl) [2, 4, 5, 25, 26] [(2, pt p3 0), (4, .int .i64 ((b / 16777216 : Nat) : Int)), (5, pt p18 0), (25, .bool true), (26, wv n16)] (by kernel_rfl) (by kernel_rfl) rfl ?_
      have hbm : bl n16 ≤ 23 := by rw [hn17]; exact hbl
      refine GL.call (j := 5) (Bits_calls n16 n16l w22) (by kernel_rfl) rfl (fun e_ w67 hR => ?_)
      obtain ⟨he_, H69⟩ := hR
      subst he_
      have H68 : Hp w [] [.blk p3 z4 24, .blk p18 (wl n16) 24] w67 := H24.callNil H69
      refine ⟨_, rfl, [2, 4, 5, 25, 27], [(2, pt p3 0), (4, .int .i64 ((b / 16777216 : Nat) : Int)), (5, pt p18 0), (25, .bool true), (27, .int .i64 ((bl n16 : Nat) : Int))], by kernel_rfl, ?_⟩
      refine GL.run (j := 11) 6 [2, 4, 5, 33] [(2, pt p3 0), (4, .int .i64 ((b / 16777216 : Nat) : Int)), (5, pt p18 0), (33, .bool (decide (256 < (IntKind.i64.wrap (((bl n16 : Nat) : Int) + (IntKind.i64.wrap (8 * (IntKind.i64.wrap (((b / 16777216 : Nat) : Int) - 3)))))))))] (by kernel_rfl) rfl ?_
      have e70 : (IntKind.i64.wrap (((b / 16777216 : Nat) : Int) - 3)) = ((b / 16777216 - 3 : Nat) : Int) := by rw [in_i64 (by omega)]; omega
      have e71 : (IntKind.i64.wrap (8 * ((b / 16777216 - 3 : Nat) : Int))) = ((8 * (b / 16777216 - 3) : Nat) : Int) := by rw [in_i64 (by omega)]; omega
      have e72 : (IntKind.i64.wrap (((bl n16 : Nat) : Int) + ((8 * (b / 16777216 - 3) : Nat) : Int))) = (((bl n16) + (8 * (b / 16777216 - 3)) : Nat) : Int) := by rw [in_i64 (by omega)]; omega
      refine GL.eq (M' := [(2, pt p3 0), (4, .int .i64 ((b / 16777216 : Nat) : Int)), (5, pt p18 0), (33, .bool (decide (256 < (((bl n16) + (8 * (b / 16777216 - 3)) : Nat) : Int))))]) (by rw [e70, e71, e72]) ?_
      clear e70 e71 e72
      refine GL.k rfl hK34 (fun _ _ h => h) ?_
      cases hb73 : (decide (256 < (((bl n16) + (8 * (b / 16777216 - 3)) : Nat) : Int)))
      · skip
        have hb73f := of_decide_eq_false hb73
        have hbn : bl n16 = bl (b % 8388608) := by rw [hn17]
        refine G.no rfl ?_
        refine G.skipK hK32 (fun _ _ h => h) ?_
        refine G.seqK fun K74 hK75 => ?_
        refine G.region ?_
        refine GL.sem (j := 1) (H68.ldA (o := 0) (ty := 24) (m := 4) (sub := (wl n16)) 1 rfl (by kernel_rfl) rfl rfl) [2, 4, 35] [(2, pt p3 0), (4, .int .i64 ((b / 16777216 : Nat) : Int)), (35, wv n16)] (by kernel_rfl) (by kernel_rfl) rfl ?_
        refine GL.run (j := 4) 3 [2, 35, 38] [(2, pt p3 0), (35, wv n16), (38, .int .i64 (IntKind.i64.wrap (8 * (IntKind.i64.wrap (((b / 16777216 : Nat) : Int) - 3)))))] (by kernel_rfl) rfl ?_
        have e76 : (IntKind.i64.wrap (((b / 16777216 : Nat) : Int) - 3)) = ((b / 16777216 - 3 : Nat) : Int) := by rw [in_i64 (by omega)]; omega
        have e77 : (IntKind.i64.wrap (8 * ((b / 16777216 - 3 : Nat) : Int))) = ((8 * (b / 16777216 - 3) : Nat) : Int) := by rw [in_i64 (by omega)]; omega
        refine GL.eq (M' := [(2, pt p3 0), (35, wv n16), (38, .int .i64 ((8 * (b / 16777216 - 3) : Nat) : Int))]) (by rw [e76, e77]) ?_
        clear e76 e77
        refine GL.call (j := 5) (Left_calls n16 (8 * (b / 16777216 - 3)) n16l w67) (by kernel_rfl) rfl (fun e_ w78 hR => ?_)
        obtain ⟨he_, H80⟩ := hR
        obtain ⟨n81, hn82⟩ : ∃ v : Nat, v = n16 * 2 ^ (8 * (b / 16777216 - 3)) % K4 := ⟨_, rfl⟩
        rw [← hn82] at he_
        have n81l : n81 < K4 := by rw [hn82]; exact Nat.mod_lt _ (by decide)
        subst he_
        have H79 : Hp w [] [.blk p3 z4 24, .blk p18 (wl n16) 24] w78 := H68.callNil H80
        refine ⟨_, rfl, [2, 39], [(2, pt p3 0), (39, wv n81)], by kernel_rfl, ?_⟩
        obtain ⟨p83, w84, r85, H86⟩ := H79.alloc (P := Try.prog) 24 z4 (by kernel_rfl)
        have H86 : Hp w [] [.blk p3 z4 24, .blk p18 (wl n16) 24, .blk p83 z4 24] w84 := H86
        refine GL.sem (j := 6) (r85) [2, 6, 39] [(2, pt p3 0), (6, pt p83 0), (39, wv n81)] (by kernel_rfl) (by kernel_rfl) rfl ?_
        obtain ⟨w87, r88, H89⟩ := H86.stA (P := Try.prog) (o := 0) (vs := (wl n81)) (ty := 24) (m := 4) 2 rfl (by kernel_rfl) rfl (by first | decide | simp) (wl_one _)
        have H89 : Hp w [] [.blk p3 z4 24, .blk p18 (wl n16) 24, .blk p83 (wl n81) 24] w87 := H89
        refine GL.semU (j := 7) r88 [2, 6] [(2, pt p3 0), (6, pt p83 0)] (by kernel_rfl) rfl rfl rfl ?_
        refine GL.k rfl hK75 (fun _ _ h => h) ?_
        refine G.seqK fun K90 hK91 => ?_
        refine G.seqK fun K92 hK93 => ?_
        refine G.region ?_
        refine GL.sem (j := 1) (H89.ldA (o := 0) (ty := 24) (m := 4) (sub := (wl n81)) 2 rfl (by kernel_rfl) rfl rfl) [2, 6, 40] [(2, pt p3 0), (6, pt p83 0), (40, wv n81)] (by kernel_rfl) (by kernel_rfl) rfl ?_
        refine GL.run (j := 2) 1 [2, 6, 40, 41] [(2, pt p3 0), (6, pt p83 0), (40, wv n81), (41, .agg #[.int .u64 0, .int .u64 0, .int .u64 0, .int .u64 0])] (by kernel_rfl) rfl ?_
        refine GL.sem (j := 3) (run_arr_eql (P := Try.prog) (t := 24) (n := 4) (k := .u64) (x := (.tmp 40)) (y := (.tmp 41)) (by kernel_rfl) [(wd n81 0 : Int), (wd n81 1 : Int), (wd n81 2 : Int), (wd n81 3 : Int)] [0, 0, 0, 0] rfl rfl _) [2, 6, 42] [(2, pt p3 0), (6, pt p83 0), (42, .bool (decide (([(wd n81 0 : Int), (wd n81 1 : Int), (wd n81 2 : Int), (wd n81 3 : Int)] : List Int) = [0, 0, 0, 0])))] (by kernel_rfl) (by kernel_rfl) rfl ?_
        refine GL.k rfl hK93 (fun _ _ h => h) ?_
        cases hb94 : (decide (([(wd n81 0 : Int), (wd n81 1 : Int), (wd n81 2 : Int), (wd n81 3 : Int)] : List Int) = [0, 0, 0, 0]))
        · skip
          have hb94f := of_decide_eq_false hb94
          have hz : n81 ≠ 0 := fun h => hb94f ((wv_eq (y := 0) n81l (by decide)).2 h)
          have hT : decT b = n81 := by rw [decT, if_pos (by omega), ← hn17, ← hn82]
          refine G.no rfl ?_
          refine G.skipK hK91 (fun _ _ h => h) ?_
          refine G.seqK fun K95 hK96 => ?_
          refine G.region ?_
          refine GL.sem (j := 1) (H89.ldA (o := 0) (ty := 24) (m := 4) (sub := (wl n81)) 2 rfl (by kernel_rfl) rfl rfl) [2, 44] [(2, pt p3 0), (44, wv n81)] (by kernel_rfl) (by kernel_rfl) rfl ?_
          obtain ⟨w97, r98, H99⟩ := H89.stA (P := Try.prog) (o := 0) (vs := (wl n81)) (ty := 24) (m := 4) 0 rfl (by kernel_rfl) rfl (by first | decide | simp) (wl_one _)
          have H99 : Hp w [] [.blk p3 (wl n81) 24, .blk p18 (wl n16) 24, .blk p83 (wl n81) 24] w97 := H99
          refine GL.semU (j := 2) r98 [2] [(2, pt p3 0)] (by kernel_rfl) rfl rfl rfl ?_
          refine GL.run (j := 3) 1 [2, 3] [(2, pt p3 0), (3, .int .i64 0)] (by kernel_rfl) rfl ?_
          refine GL.k rfl hK96 (fun _ _ h => h) ?_
          refine G.ret ?_
          intro F_ hF_ hM_
          refine hRet _ _ (bodyPost_2 rfl (RV.cell rfl (H99.ldA (o := 0) (ty := 24) (m := 4) (sub := (wl n81)) 0 rfl (by kernel_rfl) rfl rfl)) (RV.tmp rfl) ?_ F_ hF_ hM_)
          have cE : decE b = 0 := by rw [decE, if_neg (by omega), if_neg (by omega), if_neg (by rw [hT]; exact hz)]
          have cR : decR b = n81 := by rw [decR, if_pos cE, hT]
          rw [cE, cR]
          exact ⟨rfl, H99.sub (List.nil_sublist _)⟩
        · skip
          have hb94f := of_decide_eq_true hb94
          have hz : n81 = 0 := (wv_eq (y := 0) n81l (by decide)).1 hb94f
          have hT : decT b = n81 := by rw [decT, if_pos (by omega), ← hn17, ← hn82]
          refine G.yes rfl ?_
          refine G.seqK fun K100 hK101 => ?_
          refine G.region ?_
          refine GL.sem (j := 1) (H89.ldA (o := 0) (ty := 24) (m := 4) (sub := (wl n81)) 2 rfl (by kernel_rfl) rfl rfl) [2, 43] [(2, pt p3 0), (43, wv n81)] (by kernel_rfl) (by kernel_rfl) rfl ?_
          obtain ⟨w102, r103, H104⟩ := H89.stA (P := Try.prog) (o := 0) (vs := (wl n81)) (ty := 24) (m := 4) 0 rfl (by kernel_rfl) rfl (by first | decide | simp) (wl_one _)
          have H104 : Hp w [] [.blk p3 (wl n81) 24, .blk p18 (wl n16) 24, .blk p83 (wl n81) 24] w102 := H104
          refine GL.semU (j := 2) r103 [2] [(2, pt p3 0)] (by kernel_rfl) rfl rfl rfl ?_
          refine GL.run (j := 3) 1 [2, 3] [(2, pt p3 0), (3, .int .i64 6)] (by kernel_rfl) rfl ?_
          refine GL.k rfl hK101 (fun _ _ h => h) ?_
          refine G.ret ?_
          intro F_ hF_ hM_
          refine hRet _ _ (bodyPost_2 rfl (RV.cell rfl (H104.ldA (o := 0) (ty := 24) (m := 4) (sub := (wl n81)) 0 rfl (by kernel_rfl) rfl rfl)) (RV.tmp rfl) ?_ F_ hF_ hM_)
          have cE : decE b = 6 := by
            rw [decE, if_neg (by omega), if_neg (by omega), if_pos (by rw [hT]; exact hz)]
          have cR : decR b = 0 := by rw [decR, if_neg (by omega)]
          rw [show n81 = 0 from hz]
          rw [cE, cR]
          exact ⟨rfl, H104.sub (List.nil_sublist _)⟩
      · skip
        have hb73f := of_decide_eq_true hb73
        have hbn : bl n16 = bl (b % 8388608) := by rw [hn17]
        refine G.yes rfl ?_
        refine G.seqK fun K105 hK106 => ?_
        refine G.region ?_
        refine GL.run (j := 1) 1 [2, 34] [(2, pt p3 0), (34, .agg #[.int .u64 0, .int .u64 0, .int .u64 0, .int .u64 0])] (by kernel_rfl) rfl ?_
        obtain ⟨w107, r108, H109⟩ := H68.stA (P := Try.prog) (o := 0) (vs := z4) (ty := 24) (m := 4) 0 rfl (by kernel_rfl) rfl (by first | decide | simp) (z4_one)
        have H109 : Hp w [] [.blk p3 z4 24, .blk p18 (wl n16) 24] w107 := H109
        refine GL.semU (j := 2) r108 [2] [(2, pt p3 0)] (by kernel_rfl) rfl rfl rfl ?_
        refine GL.run (j := 3) 1 [2, 3] [(2, pt p3 0), (3, .int .i64 6)] (by kernel_rfl) rfl ?_
        refine GL.k rfl hK106 (fun _ _ h => h) ?_
        refine G.ret ?_
        intro F_ hF_ hM_
        refine hRet _ _ (bodyPost_2 rfl (RV.cell rfl (H109.ldA (o := 0) (ty := 24) (m := 4) (sub := z4) 0 rfl (by kernel_rfl) rfl rfl)) (RV.tmp rfl) ?_ F_ hF_ hM_)
        have cE : decE b = 6 := by
          rw [decE, if_neg (by omega), if_pos (by omega)]
        have cR : decR b = 0 := by rw [decR, if_neg (by omega)]
        rw [cE, cR]
        exact ⟨rfl, H109.sub (List.nil_sublist _)⟩
  · skip
    have hb30f : ((b / 8388608 % 2 * 8388608 : Nat) : Int) ≠ 0 := by simpa using hb30
    refine GL.sem (j := 5) (H24.ldA (o := 0) (ty := 24) (m := 4) (sub := (wl n16)) 1 rfl (by kernel_rfl) rfl rfl) [2, 4, 5, 17, 18] [(2, pt p3 0), (4, .int .i64 ((b / 16777216 : Nat) : Int)), (5, pt p18 0), (17, .bool true), (18, wv n16)] (by kernel_rfl) (by kernel_rfl) rfl ?_
    refine GL.run (j := 6) 1 [2, 4, 5, 17, 18, 19] [(2, pt p3 0), (4, .int .i64 ((b / 16777216 : Nat) : Int)), (5, pt p18 0), (17, .bool true), (18, wv n16), (19, .agg #[.int .u64 0, .int .u64 0, .int .u64 0, .int .u64 0])] (by kernel_rfl) rfl ?_
    refine GL.sem (j := 7) (run_arr_neq (P := Try.prog) (t := 24) (n := 4) (k := .u64) (x := (.tmp 18)) (y := (.tmp 19)) (by kernel_rfl) [(wd n16 0 : Int), (wd n16 1 : Int), (wd n16 2 : Int), (wd n16 3 : Int)] [0, 0, 0, 0] rfl rfl _) [2, 4, 5, 17, 20] [(2, pt p3 0), (4, .int .i64 ((b / 16777216 : Nat) : Int)), (5, pt p18 0), (17, .bool true), (20, .bool (!(decide (([(wd n16 0 : Int), (wd n16 1 : Int), (wd n16 2 : Int), (wd n16 3 : Int)] : List Int) = [0, 0, 0, 0]))))] (by kernel_rfl) (by kernel_rfl) rfl ?_
    refine GL.run (j := 8) 1 [2, 4, 5, 21] [(2, pt p3 0), (4, .int .i64 ((b / 16777216 : Nat) : Int)), (5, pt p18 0), (21, .bool (!(decide (([(wd n16 0 : Int), (wd n16 1 : Int), (wd n16 2 : Int), (wd n16 3 : Int)] : List Int) = [0, 0, 0, 0]))))] (by kernel_rfl) rfl ?_
    refine GL.k rfl hK28 (fun _ _ h => h) ?_
    cases hb110 : (decide (([(wd n16 0 : Int), (wd n16 1 : Int), (wd n16 2 : Int), (wd n16 3 : Int)] : List Int) = [0, 0, 0, 0]))
    · skip
      have hb110f := of_decide_eq_false hb110
      have hm0 : n16 ≠ 0 := fun h => hb110f ((wv_eq (y := 0) n16l (by decide)).2 h)
      rw [hn17] at hm0
      refine G.yes rfl ?_
      refine G.seqK fun K111 hK112 => ?_
      refine G.region ?_
      refine GL.run (j := 1) 1 [2, 22] [(2, pt p3 0), (22, .agg #[.int .u64 0, .int .u64 0, .int .u64 0, .int .u64 0])] (by kernel_rfl) rfl ?_
      obtain ⟨w113, r114, H115⟩ := H24.stA (P := Try.prog) (o := 0) (vs := z4) (ty := 24) (m := 4) 0 rfl (by kernel_rfl) rfl (by first | decide | simp) (z4_one)
      have H115 : Hp w [] [.blk p3 z4 24, .blk p18 (wl n16) 24] w113 := H115
      refine GL.semU (j := 2) r114 [2] [(2, pt p3 0)] (by kernel_rfl) rfl rfl rfl ?_
      refine GL.run (j := 3) 1 [2, 3] [(2, pt p3 0), (3, .int .i64 6)] (by kernel_rfl) rfl ?_
      refine GL.k rfl hK112 (fun _ _ h => h) ?_
      refine G.ret ?_
      intro F_ hF_ hM_
      refine hRet _ _ (bodyPost_2 rfl (RV.cell rfl (H115.ldA (o := 0) (ty := 24) (m := 4) (sub := z4) 0 rfl (by kernel_rfl) rfl rfl)) (RV.tmp rfl) ?_ F_ hF_ hM_)
      have cE : decE b = 6 := by
        rw [decE, if_pos (by omega)]
      have cR : decR b = 0 := by rw [decR, if_neg (by omega)]
      rw [cE, cR]
      exact ⟨rfl, H115.sub (List.nil_sublist _)⟩
    · skip
      have hb110f := of_decide_eq_true hb110
      have hm0 : n16 = 0 := (wv_eq (y := 0) n16l (by decide)).1 hb110f
      rw [hn17] at hm0
      refine G.no rfl ?_
      refine G.skipK hK26 (fun _ _ h => h) ?_
      refine G.seqK fun K116 hK117 => ?_
      refine G.seqK fun K118 hK119 => ?_
      refine G.region ?_
      refine GL.run (j := 3) 3 [2, 4, 5, 25] [(2, pt p3 0), (4, .int .i64 ((b / 16777216 : Nat) : Int)), (5, pt p18 0), (25, .bool (decide (3 < ((b / 16777216 : Nat) : Int))))] (by kernel_rfl) rfl ?_
      cases hb120 : (decide (3 < ((b / 16777216 : Nat) : Int)))
      · skip
        have hb120f := of_decide_eq_false hb120
        refine GL.run (j := 11) 8 [2, 4, 5, 33] [(2, pt p3 0), (4, .int .i64 ((b / 16777216 : Nat) : Int)), (5, pt p18 0), (33, .bool false)] (by kernel_rfl) rfl ?_
        refine GL.k rfl hK119 (fun _ _ h => h) ?_
        refine G.no rfl ?_
        refine G.skipK hK117 (fun _ _ h => h) ?_
        refine G.seqK fun K121 hK122 => ?_
        refine G.region ?_
        refine GL.sem (j := 1) (H24.ldA (o := 0) (ty := 24) (m := 4) (sub := (wl n16)) 1 rfl (by kernel_rfl) rfl rfl) [2, 4, 35] [(2, pt p3 0), (4, .int .i64 ((b / 16777216 : Nat) : Int)), (35, wv n16)] (by kernel_rfl) (by kernel_rfl) rfl ?_
        refine GL.run (j := 4) 3 [2, 35, 38] [(2, pt p3 0), (35, wv n16), (38, .int .i64 (IntKind.i64.wrap (8 * (IntKind.i64.wrap (((b / 16777216 : Nat) : Int) - 3)))))] (by kernel_rfl) rfl ?_
        have e123 : (IntKind.i64.wrap (((b / 16777216 : Nat) : Int) - 3)) = ((b / 16777216 - 3 : Nat) : Int) := by rw [in_i64 (by omega)]; omega
        have e124 : (IntKind.i64.wrap (8 * ((b / 16777216 - 3 : Nat) : Int))) = ((8 * (b / 16777216 - 3) : Nat) : Int) := by rw [in_i64 (by omega)]; omega
        refine GL.eq (M' := [(2, pt p3 0), (35, wv n16), (38, .int .i64 ((8 * (b / 16777216 - 3) : Nat) : Int))]) (by rw [e123, e124]) ?_
        clear e123 e124
        refine GL.call (j := 5) (Left_calls n16 (8 * (b / 16777216 - 3)) n16l w22) (by kernel_rfl) rfl (fun e_ w125 hR => ?_)
        obtain ⟨he_, H127⟩ := hR
        obtain ⟨n128, hn129⟩ : ∃ v : Nat, v = n16 * 2 ^ (8 * (b / 16777216 - 3)) % K4 := ⟨_, rfl⟩
        rw [← hn129] at he_
        have n128l : n128 < K4 := by rw [hn129]; exact Nat.mod_lt _ (by decide)
        subst he_
        have H126 : Hp w [] [.blk p3 z4 24, .blk p18 (wl n16) 24] w125 := H24.callNil H127
        refine ⟨_, rfl, [2, 39], [(2, pt p3 0), (39, wv n128)], by kernel_rfl, ?_⟩
        obtain ⟨p130, w131, r132, H133⟩ := H126.alloc (P := Try.prog) 24 z4 (by kernel_rfl)
        have H133 : Hp w [] [.blk p3 z4 24, .blk p18 (wl n16) 24, .blk p130 z4 24] w131 := H133
        refine GL.sem (j := 6) (r132) [2, 6, 39] [(2, pt p3 0), (6, pt p130 0), (39, wv n128)] (by kernel_rfl) (by kernel_rfl) rfl ?_
        obtain ⟨w134, r135, H136⟩ := H133.stA (P := Try.prog) (o := 0) (vs := (wl n128)) (ty := 24) (m := 4) 2 rfl (by kernel_rfl) rfl (by first | decide | simp) (wl_one _)
        have H136 : Hp w [] [.blk p3 z4 24, .blk p18 (wl n16) 24, .blk p130 (wl n128) 24] w134 := H136
        refine GL.semU (j := 7) r135 [2, 6] [(2, pt p3 0), (6, pt p130 0)] (by kernel_rfl) rfl rfl rfl ?_
        refine GL.k rfl hK122 (fun _ _ h => h) ?_
        refine G.seqK fun K137 hK138 => ?_
        refine G.seqK fun K139 hK140 => ?_
        refine G.region ?_
        refine GL.sem (j := 1) (H136.ldA (o := 0) (ty := 24) (m := 4) (sub := (wl n128)) 2 rfl (by kernel_rfl) rfl rfl) [2, 6, 40] [(2, pt p3 0), (6, pt p130 0), (40, wv n128)] (by kernel_rfl) (by kernel_rfl) rfl ?_
        refine GL.run (j := 2) 1 [2, 6, 40, 41] [(2, pt p3 0), (6, pt p130 0), (40, wv n128), (41, .agg #[.int .u64 0, .int .u64 0, .int .u64 0, .int .u64 0])] (by kernel_rfl) rfl ?_
        refine GL.sem (j := 3) (run_arr_eql (P := Try.prog) (t := 24) (n := 4) (k := .u64) (x := (.tmp 40)) (y := (.tmp 41)) (by kernel_rfl) [(wd n128 0 : Int), (wd n128 1 : Int), (wd n128 2 : Int), (wd n128 3 : Int)] [0, 0, 0, 0] rfl rfl _) [2, 6, 42] [(2, pt p3 0), (6, pt p130 0), (42, .bool (decide (([(wd n128 0 : Int), (wd n128 1 : Int), (wd n128 2 : Int), (wd n128 3 : Int)] : List Int) = [0, 0, 0, 0])))] (by kernel_rfl) (by kernel_rfl) rfl ?_
        refine GL.k rfl hK140 (fun _ _ h => h) ?_
        cases hb141 : (decide (([(wd n128 0 : Int), (wd n128 1 : Int), (wd n128 2 : Int), (wd n128 3 : Int)] : List Int) = [0, 0, 0, 0]))
        · skip
          have hb141f := of_decide_eq_false hb141
          have hz : n128 ≠ 0 := fun h => hb141f ((wv_eq (y := 0) n128l (by decide)).2 h)
          have hT : decT b = n128 := by rw [decT, if_pos (by omega), ← hn17, ← hn129]
          refine G.no rfl ?_
          refine G.skipK hK138 (fun _ _ h => h) ?_
          refine G.seqK fun K142 hK143 => ?_
          refine G.region ?_
          refine GL.sem (j := 1) (H136.ldA (o := 0) (ty := 24) (m := 4) (sub := (wl n128)) 2 rfl (by kernel_rfl) rfl rfl) [2, 44] [(2, pt p3 0), (44, wv n128)] (by kernel_rfl) (by kernel_rfl) rfl ?_
          obtain ⟨w144, r145, H146⟩ := H136.stA (P := Try.prog) (o := 0) (vs := (wl n128)) (ty := 24) (m := 4) 0 rfl (by kernel_rfl) rfl (by first | decide | simp) (wl_one _)
          have H146 : Hp w [] [.blk p3 (wl n128) 24, .blk p18 (wl n16) 24, .blk p130 (wl n128) 24] w144 := H146
          refine GL.semU (j := 2) r145 [2] [(2, pt p3 0)] (by kernel_rfl) rfl rfl rfl ?_
          refine GL.run (j := 3) 1 [2, 3] [(2, pt p3 0), (3, .int .i64 0)] (by kernel_rfl) rfl ?_
          refine GL.k rfl hK143 (fun _ _ h => h) ?_
          refine G.ret ?_
          intro F_ hF_ hM_
          refine hRet _ _ (bodyPost_2 rfl (RV.cell rfl (H146.ldA (o := 0) (ty := 24) (m := 4) (sub := (wl n128)) 0 rfl (by kernel_rfl) rfl rfl)) (RV.tmp rfl) ?_ F_ hF_ hM_)
          have cE : decE b = 0 := by rw [decE, if_neg (by omega), if_neg (by omega), if_neg (by rw [hT]; exact hz)]
          have cR : decR b = n128 := by rw [decR, if_pos cE, hT]
          rw [cE, cR]
          exact ⟨rfl, H146.sub (List.nil_sublist _)⟩
        · skip
          have hb141f := of_decide_eq_true hb141
          have hz : n128 = 0 := (wv_eq (y := 0) n128l (by decide)).1 hb141f
          have hT : decT b = n128 := by rw [decT, if_pos (by omega), ← hn17, ← hn129]
          refine G.yes rfl ?_
          refine G.seqK fun K147 hK148 => ?_
          refine G.region ?_
          refine GL.sem (j := 1) (H136.ldA (o := 0) (ty := 24) (m := 4) (sub := (wl n128)) 2 rfl (by kernel_rfl) rfl rfl) [2, 43] [(2, pt p3 0), (43, wv n128)] (by kernel_rfl) (by kernel_rfl) rfl ?_
          obtain ⟨w149, r150, H151⟩ := H136.stA (P := Try.prog) (o := 0) (vs := (wl n128)) (ty := 24) (m := 4) 0 rfl (by kernel_rfl) rfl (by first | decide | simp) (wl_one _)
          have H151 : Hp w [] [.blk p3 (wl n128) 24, .blk p18 (wl n16) 24, .blk p130 (wl n128) 24] w149 := H151
          refine GL.semU (j := 2) r150 [2] [(2, pt p3 0)] (by kernel_rfl) rfl rfl rfl ?_
          refine GL.run (j := 3) 1 [2, 3] [(2, pt p3 0), (3, .int .i64 6)] (by kernel_rfl) rfl ?_
          refine GL.k rfl hK148 (fun _ _ h => h) ?_
          refine G.ret ?_
          intro F_ hF_ hM_
          refine hRet _ _ (bodyPost_2 rfl (RV.cell rfl (H151.ldA (o := 0) (ty := 24) (m := 4) (sub := (wl n128)) 0 rfl (by kernel_rfl) rfl rfl)) (RV.tmp rfl) ?_ F_ hF_ hM_)
          have cE : decE b = 6 := by
            rw [decE, if_neg (by omega), if_neg (by omega), if_pos (by rw [hT]; exact hz)]
          have cR : decR b = 0 := by rw [decR, if_neg (by omega)]
          rw [show n128 = 0 from hz]
          rw [cE, cR]
          exact ⟨rfl, H151.sub (List.nil_sublist _)⟩
      · skip
        have hb120f := of_decide_eq_true hb120
        refine GL.sem (j := 4) (H24.ldA (o := 0) (ty := 24) (m := 4) (sub := (wl n16)) 1 rfl (by kernel_rfl) rfl rfl) [2, 4, 5, 25, 26] [(2, pt p3 0), (4, .int .i64 ((b / 16777216 : Nat) : Int)), (5, pt p18 0), (25, .bool true), (26, wv n16)] (by kernel_rfl) (by kernel_rfl) rfl ?_
        have hbm : bl n16 ≤ 23 := by rw [hn17]; exact hbl
        refine GL.call (j := 5) (Bits_calls n16 n16l w22) (by kernel_rfl) rfl (fun e_ w152 hR => ?_)
        obtain ⟨he_, H154⟩ := hR
        subst he_
        have H153 : Hp w [] [.blk p3 z4 24, .blk p18 (wl n16) 24] w152 := H24.callNil H154
        refine ⟨_, rfl, [2, 4, 5, 25, 27], [(2, pt p3 0), (4, .int .i64 ((b / 16777216 : Nat) : Int)), (5, pt p18 0), (25, .bool true), (27, .int .i64 ((bl n16 : Nat) : Int))], by kernel_rfl, ?_⟩
        refine GL.run (j := 11) 6 [2, 4, 5, 33] [(2, pt p3 0), (4, .int .i64 ((b / 16777216 : Nat) : Int)), (5, pt p18 0), (33, .bool (decide (256 < (IntKind.i64.wrap (((bl n16 : Nat) : Int) + (IntKind.i64.wrap (8 * (IntKind.i64.wrap (((b / 16777216 : Nat) : Int) - 3)))))))))] (by kernel_rfl) rfl ?_
        have e155 : (IntKind.i64.wrap (((b / 16777216 : Nat) : Int) - 3)) = ((b / 16777216 - 3 : Nat) : Int) := by rw [in_i64 (by omega)]; omega
        have e156 : (IntKind.i64.wrap (8 * ((b / 16777216 - 3 : Nat) : Int))) = ((8 * (b / 16777216 - 3) : Nat) : Int) := by rw [in_i64 (by omega)]; omega
        have e157 : (IntKind.i64.wrap (((bl n16 : Nat) : Int) + ((8 * (b / 16777216 - 3) : Nat) : Int))) = (((bl n16) + (8 * (b / 16777216 - 3)) : Nat) : Int) := by rw [in_i64 (by omega)]; omega
        refine GL.eq (M' := [(2, pt p3 0), (4, .int .i64 ((b / 16777216 : Nat) : Int)), (5, pt p18 0), (33, .bool (decide (256 < (((bl n16) + (8 * (b / 16777216 - 3)) : Nat) : Int))))]) (by rw [e155, e156, e157]) ?_
        clear e155 e156 e157
        refine GL.k rfl hK119 (fun _ _ h => h) ?_
        cases hb158 : (decide (256 < (((bl n16) + (8 * (b / 16777216 - 3)) : Nat) : Int)))
        · skip
          have hb158f := of_decide_eq_false hb158
          have hbn : bl n16 = bl (b % 8388608) := by rw [hn17]
          refine G.no rfl ?_
          refine G.skipK hK117 (fun _ _ h => h) ?_
          refine G.seqK fun K159 hK160 => ?_
          refine G.region ?_
          refine GL.sem (j := 1) (H153.ldA (o := 0) (ty := 24) (m := 4) (sub := (wl n16)) 1 rfl (by kernel_rfl) rfl rfl) [2, 4, 35] [(2, pt p3 0), (4, .int .i64 ((b / 16777216 : Nat) : Int)), (35, wv n16)] (by kernel_rfl) (by kernel_rfl) rfl ?_
          refine GL.run (j := 4) 3 [2, 35, 38] [(2, pt p3 0), (35, wv n16), (38, .int .i64 (IntKind.i64.wrap (8 * (IntKind.i64.wrap (((b / 16777216 : Nat) : Int) - 3)))))] (by kernel_rfl) rfl ?_
          have e161 : (IntKind.i64.wrap (((b / 16777216 : Nat) : Int) - 3)) = ((b / 16777216 - 3 : Nat) : Int) := by rw [in_i64 (by omega)]; omega
          have e162 : (IntKind.i64.wrap (8 * ((b / 16777216 - 3 : Nat) : Int))) = ((8 * (b / 16777216 - 3) : Nat) : Int) := by rw [in_i64 (by omega)]; omega
          refine GL.eq (M' := [(2, pt p3 0), (35, wv n16), (38, .int .i64 ((8 * (b / 16777216 - 3) : Nat) : Int))]) (by rw [e161, e162]) ?_
          clear e161 e162
          refine GL.call (j := 5) (Left_calls n16 (8 * (b / 16777216 - 3)) n16l w152) (by kernel_rfl) rfl (fun e_ w163 hR => ?_)
          obtain ⟨he_, H165⟩ := hR
          obtain ⟨n166, hn167⟩ : ∃ v : Nat, v = n16 * 2 ^ (8 * (b / 16777216 - 3)) % K4 := ⟨_, rfl⟩
          rw [← hn167] at he_
          have n166l : n166 < K4 := by rw [hn167]; exact Nat.mod_lt _ (by decide)
          subst he_
          have H164 : Hp w [] [.blk p3 z4 24, .blk p18 (wl n16) 24] w163 := H153.callNil H165
          refine ⟨_, rfl, [2, 39], [(2, pt p3 0), (39, wv n166)], by kernel_rfl, ?_⟩
          obtain ⟨p168, w169, r170, H171⟩ := H164.alloc (P := Try.prog) 24 z4 (by kernel_rfl)
          have H171 : Hp w [] [.blk p3 z4 24, .blk p18 (wl n16) 24, .blk p168 z4 24] w169 := H171
          refine GL.sem (j := 6) (r170) [2, 6, 39] [(2, pt p3 0), (6, pt p168 0), (39, wv n166)] (by kernel_rfl) (by kernel_rfl) rfl ?_
          obtain ⟨w172, r173, H174⟩ := H171.stA (P := Try.prog) (o := 0) (vs := (wl n166)) (ty := 24) (m := 4) 2 rfl (by kernel_rfl) rfl (by first | decide | simp) (wl_one _)
          have H174 : Hp w [] [.blk p3 z4 24, .blk p18 (wl n16) 24, .blk p168 (wl n166) 24] w172 := H174
          refine GL.semU (j := 7) r173 [2, 6] [(2, pt p3 0), (6, pt p168 0)] (by kernel_rfl) rfl rfl rfl ?_
          refine GL.k rfl hK160 (fun _ _ h => h) ?_
          refine G.seqK fun K175 hK176 => ?_
          refine G.seqK fun K177 hK178 => ?_
          refine G.region ?_
          refine GL.sem (j := 1) (H174.ldA (o := 0) (ty := 24) (m := 4) (sub := (wl n166)) 2 rfl (by kernel_rfl) rfl rfl) [2, 6, 40] [(2, pt p3 0), (6, pt p168 0), (40, wv n166)] (by kernel_rfl) (by kernel_rfl) rfl ?_
          refine GL.run (j := 2) 1 [2, 6, 40, 41] [(2, pt p3 0), (6, pt p168 0), (40, wv n166), (41, .agg #[.int .u64 0, .int .u64 0, .int .u64 0, .int .u64 0])] (by kernel_rfl) rfl ?_
          refine GL.sem (j := 3) (run_arr_eql (P := Try.prog) (t := 24) (n := 4) (k := .u64) (x := (.tmp 40)) (y := (.tmp 41)) (by kernel_rfl) [(wd n166 0 : Int), (wd n166 1 : Int), (wd n166 2 : Int), (wd n166 3 : Int)] [0, 0, 0, 0] rfl rfl _) [2, 6, 42] [(2, pt p3 0), (6, pt p168 0), (42, .bool (decide (([(wd n166 0 : Int), (wd n166 1 : Int), (wd n166 2 : Int), (wd n166 3 : Int)] : List Int) = [0, 0, 0, 0])))] (by kernel_rfl) (by kernel_rfl) rfl ?_
          refine GL.k rfl hK178 (fun _ _ h => h) ?_
          cases hb179 : (decide (([(wd n166 0 : Int), (wd n166 1 : Int), (wd n166 2 : Int), (wd n166 3 : Int)] : List Int) = [0, 0, 0, 0]))
          · skip
            have hb179f := of_decide_eq_false hb179
            have hz : n166 ≠ 0 := fun h => hb179f ((wv_eq (y := 0) n166l (by decide)).2 h)
            have hT : decT b = n166 := by rw [decT, if_pos (by omega), ← hn17, ← hn167]
            refine G.no rfl ?_
            refine G.skipK hK176 (fun _ _ h => h) ?_
            refine G.seqK fun K180 hK181 => ?_
            refine G.region ?_
            refine GL.sem (j := 1) (H174.ldA (o := 0) (ty := 24) (m := 4) (sub := (wl n166)) 2 rfl (by kernel_rfl) rfl rfl) [2, 44] [(2, pt p3 0), (44, wv n166)] (by kernel_rfl) (by kernel_rfl) rfl ?_
            obtain ⟨w182, r183, H184⟩ := H174.stA (P := Try.prog) (o := 0) (vs := (wl n166)) (ty := 24) (m := 4) 0 rfl (by kernel_rfl) rfl (by first | decide | simp) (wl_one _)
            have H184 : Hp w [] [.blk p3 (wl n166) 24, .blk p18 (wl n16) 24, .blk p168 (wl n166) 24] w182 := H184
            refine GL.semU (j := 2) r183 [2] [(2, pt p3 0)] (by kernel_rfl) rfl rfl rfl ?_
            refine GL.run (j := 3) 1 [2, 3] [(2, pt p3 0), (3, .int .i64 0)] (by kernel_rfl) rfl ?_
            refine GL.k rfl hK181 (fun _ _ h => h) ?_
            refine G.ret ?_
            intro F_ hF_ hM_
            refine hRet _ _ (bodyPost_2 rfl (RV.cell rfl (H184.ldA (o := 0) (ty := 24) (m := 4) (sub := (wl n166)) 0 rfl (by kernel_rfl) rfl rfl)) (RV.tmp rfl) ?_ F_ hF_ hM_)
            have cE : decE b = 0 := by rw [decE, if_neg (by omega), if_neg (by omega), if_neg (by rw [hT]; exact hz)]
            have cR : decR b = n166 := by rw [decR, if_pos cE, hT]
            rw [cE, cR]
            exact ⟨rfl, H184.sub (List.nil_sublist _)⟩
          · skip
            have hb179f := of_decide_eq_true hb179
            have hz : n166 = 0 := (wv_eq (y := 0) n166l (by decide)).1 hb179f
            have hT : decT b = n166 := by rw [decT, if_pos (by omega), ← hn17, ← hn167]
            refine G.yes rfl ?_
            refine G.seqK fun K185 hK186 => ?_
            refine G.region ?_
            refine GL.sem (j := 1) (H174.ldA (o := 0) (ty := 24) (m := 4) (sub := (wl n166)) 2 rfl (by kernel_rfl) rfl rfl) [2, 43] [(2, pt p3 0), (43, wv n166)] (by kernel_rfl) (by kernel_rfl) rfl ?_
            obtain ⟨w187, r188, H189⟩ := H174.stA (P := Try.prog) (o := 0) (vs := (wl n166)) (ty := 24) (m := 4) 0 rfl (by kernel_rfl) rfl (by first | decide | simp) (wl_one _)
            have H189 : Hp w [] [.blk p3 (wl n166) 24, .blk p18 (wl n16) 24, .blk p168 (wl n166) 24] w187 := H189
            refine GL.semU (j := 2) r188 [2] [(2, pt p3 0)] (by kernel_rfl) rfl rfl rfl ?_
            refine GL.run (j := 3) 1 [2, 3] [(2, pt p3 0), (3, .int .i64 6)] (by kernel_rfl) rfl ?_
            refine GL.k rfl hK186 (fun _ _ h => h) ?_
            refine G.ret ?_
            intro F_ hF_ hM_
            refine hRet _ _ (bodyPost_2 rfl (RV.cell rfl (H189.ldA (o := 0) (ty := 24) (m := 4) (sub := (wl n166)) 0 rfl (by kernel_rfl) rfl rfl)) (RV.tmp rfl) ?_ F_ hF_ hM_)
            have cE : decE b = 6 := by
              rw [decE, if_neg (by omega), if_neg (by omega), if_pos (by rw [hT]; exact hz)]
            have cR : decR b = 0 := by rw [decR, if_neg (by omega)]
            rw [show n166 = 0 from hz]
            rw [cE, cR]
            exact ⟨rfl, H189.sub (List.nil_sublist _)⟩
        · skip
          have hb158f := of_decide_eq_true hb158
          have hbn : bl n16 = bl (b % 8388608) := by rw [hn17]
          refine G.yes rfl ?_
          refine G.seqK fun K190 hK191 => ?_
          refine G.region ?_
          refine GL.run (j := 1) 1 [2, 34] [(2, pt p3 0), (34, .agg #[.int .u64 0, .int .u64 0, .int .u64 0, .int .u64 0])] (by kernel_rfl) rfl ?_
          obtain ⟨w192, r193, H194⟩ := H153.stA (P := Try.prog) (o := 0) (vs := z4) (ty := 24) (m := 4) 0 rfl (by kernel_rfl) rfl (by first | decide | simp) (z4_one)
          have H194 : Hp w [] [.blk p3 z4 24, .blk p18 (wl n16) 24] w192 := H194
          refine GL.semU (j := 2) r193 [2] [(2, pt p3 0)] (by kernel_rfl) rfl rfl rfl ?_
          refine GL.run (j := 3) 1 [2, 3] [(2, pt p3 0), (3, .int .i64 6)] (by kernel_rfl) rfl ?_
          refine GL.k rfl hK191 (fun _ _ h => h) ?_
          refine G.ret ?_
          intro F_ hF_ hM_
          refine hRet _ _ (bodyPost_2 rfl (RV.cell rfl (H194.ldA (o := 0) (ty := 24) (m := 4) (sub := z4) 0 rfl (by kernel_rfl) rfl rfl)) (RV.tmp rfl) ?_ F_ hF_ hM_)
          have cE : decE b = 6 := by
            rw [decE, if_neg (by omega), if_pos (by omega)]
          have cR : decR b = 0 := by rw [decR, if_neg (by omega)]
          rw [cE, cR]
          exact ⟨rfl, H194.sub (List.nil_sublist _)⟩
end Go.Proofs.Ytjfllmkihfidcaa
