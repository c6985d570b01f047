/- A target, scaled, is the document's: the walk. -/
import Derived.Test.YtjfllmkihfidcaaIs
import Derived.Test.YtjfllmkihfidcaaLives
import Derived.Test.YtjfllmkihfidcaaRefS
namespace Go.Proofs.Ytjfllmkihfidcaa
open Go.RowKit
theorem TargetScales_calls (t m u d : Nat) (ht : t < K4) (hm : m < K4) (hu : u < K) (hd : d < K) (w : World) : Calls Try.prog 6 #[wv t, wv m, .int .u64 (u : Int), .int .u64 (d : Int)] w fun e w' => e = .returned (.bool true) ∧ Hp w [] [] w' := by
  have hMX : MX = 4611686018427387904 := rfl
  have hK0 : K = 18446744073709551616 := rfl
  have hK40 : K4 = 115792089237316195423570985008687907853269984665640564039457584007913129639936 := rfl
  have hsc := sc_cases t u d m
  refine calls_G (args := [wv t, wv m, .int .u64 (u : Int), .int .u64 (d : Int)]) Try.func6 rfl Try.ntmps6 rfl ?_
  intro Q0 hRet hNor hPan
  have H := Hp.start w
  have H : Hp w [] [] w := H
  refine G.seqK fun K1 hK2 => ?_
  refine G.region ?_
  obtain ⟨p3, w4, r5, H6⟩ := H.box (P := Try.prog) 24 (wl t) (wv t) rfl
  have H6 : Hp w [] [.blk p3 (wl t) 24] w4 := H6
  refine GL.sem (j := 1) (r5) [1, 2, 3, 4] [(1, wv m), (2, .int .u64 (u : Int)), (3, .int .u64 (d : Int)), (4, pt p3 0)] (by kernel_rfl) (by kernel_rfl) rfl ?_
  obtain ⟨p7, w8, r9, H10⟩ := H6.box (P := Try.prog) 24 (wl m) (wv m) rfl
  have H10 : Hp w [] [.blk p3 (wl t) 24, .blk p7 (wl m) 24] w8 := H10
  refine GL.sem (j := 2) (r9) [2, 3, 4, 5] [(2, .int .u64 (u : Int)), (3, .int .u64 (d : Int)), (4, pt p3 0), (5, pt p7 0)] (by kernel_rfl) (by kernel_rfl) rfl ?_
  refine GL.run (j := 3) 1 [2, 3, 4, 5] [(2, .int .u64 (u : Int)), (3, .int .u64 (d : Int)), (4, pt p3 0), (5, pt p7 0)] (by kernel_rfl) rfl ?_
  refine GL.k rfl hK2 (fun _ _ h => h) ?_
  refine G.seqK fun K11 hK12 => ?_
  refine G.seqK fun K13 hK14 => ?_
  refine G.region ?_
  refine GL.call (j := 1) (lives_calls w8) (by kernel_rfl) rfl (fun e_ w15 hR => ?_)
  obtain ⟨rfl, H17⟩ := hR
  have H16 : Hp w [] [.blk p3 (wl t) 24, .blk p7 (wl m) 24] w15 := H10.callNil H17
  refine ⟨_, rfl, [2, 3, 4, 5, 11], [(2, .int .u64 (u : Int)), (3, .int .u64 (d : Int)), (4, pt p3 0), (5, pt p7 0), (11, .bool true)], by kernel_rfl, ?_⟩
  refine GL.run (j := 2) 1 [2, 3, 4, 5, 12] [(2, .int .u64 (u : Int)), (3, .int .u64 (d : Int)), (4, pt p3 0), (5, pt p7 0), (12, .bool false)] (by kernel_rfl) rfl ?_
  refine GL.k rfl hK14 (fun _ _ h => h) ?_
  refine G.no rfl ?_
  refine G.skipK hK12 (fun _ _ h => h) ?_
  refine G.seqK fun K18 hK19 => ?_
  refine G.region ?_
  refine GL.sem (j := 1) (H16.ldA (o := 0) (ty := 24) (m := 4) (sub := (wl t)) 0 rfl (by kernel_rfl) rfl rfl) [2, 3, 4, 5, 14] [(2, .int .u64 (u : Int)), (3, .int .u64 (d : Int)), (4, pt p3 0), (5, pt p7 0), (14, wv t)] (by kernel_rfl) (by kernel_rfl) rfl ?_
  refine GL.run (j := 3) 2 [2, 3, 4, 5, 14, 15, 16] [(2, .int .u64 (u : Int)), (3, .int .u64 (d : Int)), (4, pt p3 0), (5, pt p7 0), (14, wv t), (15, .int .u64 (u : Int)), (16, .int .u64 (d : Int))] (by kernel_rfl) rfl ?_
  refine GL.sem (j := 4) (H16.ldA (o := 0) (ty := 24) (m := 4) (sub := (wl m)) 1 rfl (by kernel_rfl) rfl rfl) [2, 3, 4, 5, 14, 15, 16, 17] [(2, .int .u64 (u : Int)), (3, .int .u64 (d : Int)), (4, pt p3 0), (5, pt p7 0), (14, wv t), (15, .int .u64 (u : Int)), (16, .int .u64 (d : Int)), (17, wv m)] (by kernel_rfl) (by kernel_rfl) rfl ?_
  refine GL.call (j := 5) (Scale_calls t u d m ht hu hd hm w15) (by kernel_rfl) rfl (fun e_ w20 hR => ?_)
  obtain ⟨he_, H22⟩ := hR
  obtain ⟨n23, hn24⟩ : ∃ v : Nat, v = scR t u d m := ⟨_, rfl⟩
  rw [← hn24] at he_
  have n23l : n23 < K4 := by rw [hn24]; exact scR_lt hm
  subst he_
  have H21 : Hp w [] [.blk p3 (wl t) 24, .blk p7 (wl m) 24] w20 := H16.callNil H22
  refine ⟨_, rfl, [2, 3, 4, 5, 18], [(2, .int .u64 (u : Int)), (3, .int .u64 (d : Int)), (4, pt p3 0), (5, pt p7 0), (18, .tuple #[wv n23, .int .i64 (((scE d m) : Nat) : Int)])], by kernel_rfl, ?_⟩
  refine GL.run (j := 8) 3 [2, 3, 4, 5, 19, 20] [(2, .int .u64 (u : Int)), (3, .int .u64 (d : Int)), (4, pt p3 0), (5, pt p7 0), (19, wv n23), (20, .int .i64 (((scE d m) : Nat) : Int))] (by kernel_rfl) rfl ?_
  obtain ⟨p25, w26, r27, H28⟩ := H21.alloc (P := Try.prog) 24 z4 (by kernel_rfl)
  have H28 : Hp w [] [.blk p3 (wl t) 24, .blk p7 (wl m) 24, .blk p25 z4 24] w26 := H28
  refine GL.sem (j := 9) (r27) [2, 3, 4, 5, 9, 19, 20] [(2, .int .u64 (u : Int)), (3, .int .u64 (d : Int)), (4, pt p3 0), (5, pt p7 0), (9, pt p25 0), (19, wv n23), (20, .int .i64 (((scE d m) : Nat) : Int))] (by kernel_rfl) (by kernel_rfl) rfl ?_
  obtain ⟨w29, r30, H31⟩ := H28.stA (P := Try.prog) (o := 0) (vs := (wl n23)) (ty := 24) (m := 4) 2 rfl (by kernel_rfl) rfl (by first | decide | simp) (wl_one _)
  have H31 : Hp w [] [.blk p3 (wl t) 24, .blk p7 (wl m) 24, .blk p25 (wl n23) 24] w29 := H31
  refine GL.semU (j := 10) r30 [2, 3, 4, 5, 9, 20] [(2, .int .u64 (u : Int)), (3, .int .u64 (d : Int)), (4, pt p3 0), (5, pt p7 0), (9, pt p25 0), (20, .int .i64 (((scE d m) : Nat) : Int))] (by kernel_rfl) rfl rfl rfl ?_
  refine GL.run (j := 11) 1 [2, 3, 4, 5, 9, 10] [(2, .int .u64 (u : Int)), (3, .int .u64 (d : Int)), (4, pt p3 0), (5, pt p7 0), (9, pt p25 0), (10, .int .i64 (((scE d m) : Nat) : Int))] (by kernel_rfl) rfl ?_
  refine GL.k rfl hK19 (fun _ _ h => h) ?_
  refine G.seqK fun K32 hK33 => ?_
  refine G.block ?_
  refine G.seqK fun K34 hK35 => ?_
  refine G.region ?_
  refine GL.run (j := 3) 3 [2, 3, 4, 5, 9, 10, 21] [(2, .int .u64 (u : Int)), (3, .int .u64 (d : Int)), (4, pt p3 0), (5, pt p7 0), (9, pt p25 0), (10, .int .i64 (((scE d m) : Nat) : Int)), (21, .bool ((d : Int) == 0))] (by kernel_rfl) rfl ?_
  refine GL.k rfl hK35 (fun _ _ h => h) ?_
  cases hb36 : ((d : Int) == 0)
  · skip
    have hb36f := ne_of_beq_false hb36
    have hd0 : d ≠ 0 := by omega
    refine G.no rfl ?_
    refine G.seqK fun K37 hK38 => ?_
    refine G.region ?_
    refine GL.sem (j := 1) (H31.ldA (o := 0) (ty := 24) (m := 4) (sub := (wl m)) 1 rfl (by kernel_rfl) rfl rfl) [2, 3, 4, 5, 9, 10, 32] [(2, .int .u64 (u : Int)), (3, .int .u64 (d : Int)), (4, pt p3 0), (5, pt p7 0), (9, pt p25 0), (10, .int .i64 (((scE d m) : Nat) : Int)), (32, wv m)] (by kernel_rfl) (by kernel_rfl) rfl ?_
    refine GL.run (j := 2) 1 [2, 3, 4, 5, 9, 10, 32, 33] [(2, .int .u64 (u : Int)), (3, .int .u64 (d : Int)), (4, pt p3 0), (5, pt p7 0), (9, pt p25 0), (10, .int .i64 (((scE d m) : Nat) : Int)), (32, wv m), (33, .agg #[.int .u64 0, .int .u64 0, .int .u64 0, .int .u64 0])] (by kernel_rfl) rfl ?_
    refine GL.sem (j := 3) (run_arr_eql (P := Try.prog) (t := 24) (n := 4) (k := .u64) (x := (.tmp 32)) (y := (.tmp 33)) (by kernel_rfl) [(wd m 0 : Int), (wd m 1 : Int), (wd m 2 : Int), (wd m 3 : Int)] [0, 0, 0, 0] rfl rfl _) [2, 3, 4, 5, 9, 10, 34] [(2, .int .u64 (u : Int)), (3, .int .u64 (d : Int)), (4, pt p3 0), (5, pt p7 0), (9, pt p25 0), (10, .int .i64 (((scE d m) : Nat) : Int)), (34, .bool (decide (([(wd m 0 : Int), (wd m 1 : Int), (wd m 2 : Int), (wd m 3 : Int)] : List Int) = [0, 0, 0, 0])))] (by kernel_rfl) (by kernel_rfl) rfl ?_
    refine GL.run (j := 4) 1 [2, 3, 4, 5, 9, 10, 31] [(2, .int .u64 (u : Int)), (3, .int .u64 (d : Int)), (4, pt p3 0), (5, pt p7 0), (9, pt p25 0), (10, .int .i64 (((scE d m) : Nat) : Int)), (31, .bool (decide (([(wd m 0 : Int), (wd m 1 : Int), (wd m 2 : Int), (wd m 3 : Int)] : List Int) = [0, 0, 0, 0])))] (by kernel_rfl) rfl ?_
    refine GL.k rfl hK38 (fun _ _ h => h) ?_
    cases hb39 : (decide (([(wd m 0 : Int), (wd m 1 : Int), (wd m 2 : Int), (wd m 3 : Int)] : List Int) = [0, 0, 0, 0]))
    · skip
      have hb39f := of_decide_eq_false hb39
      have hm0 : m ≠ 0 := fun h => hb39f ((wv_eq (y := 0) hm (by decide)).2 h)
      refine G.no rfl ?_
      refine G.skipK hK33 (fun _ _ h => h) ?_
      refine G.seqK fun K40 hK41 => ?_
      refine G.heldP (Hp w [] [.blk p3 (wl t) 24, .blk p7 (wl m) 24, .blk p25 (wl n23) 24]) (by kernel_rfl) (by kernel_rfl) (fun c_ a_ d_ v_ w_ h_ => hPan c_ a_ d_ v_ w_ h_) ?_
      have H42 := H31.drew
      generalize ({ w29 with drawn := w29.drawn + 1 } : World) = w43 at H42 ⊢
      have hS44 : Hp w [] [.blk p3 (wl t) 24, .blk p7 (wl m) 24, .blk p25 (wl n23) 24] w43 := H42.sub (List.Sublist.cons_cons _ (List.Sublist.cons_cons _ (List.Sublist.cons_cons _ (List.Sublist.slnil))))
      refine GP.run [0, 1, 2] [2, 3, 4, 5, 9, 44] [(2, .int .u64 (u : Int)), (3, .int .u64 (d : Int)), (4, pt p3 0), (5, pt p7 0), (9, pt p25 0), (44, .bool ((((scE d m) : Nat) : Int) == 0))] [0, 1, 2] (by kernel_rfl) rfl hS44 ?_
      cases hb45 : ((((scE d m) : Nat) : Int) == 0)
      · skip
        have hb45f := ne_of_beq_false hb45
        refine GP.run [3, 4, 5, 6, 7, 8, 9, 10, 11, 12, 13] [8] [(8, .bool false)] [0, 1, 2, 3, 4, 5, 6, 7, 8, 9, 10, 11, 12, 13] (by kernel_rfl) rfl hS44 ?_
        refine GP.k (by kernel_rfl) hK41 (fun _ _ h => h) ?_
        refine G.ret ?_
        intro F_ hF_ hM_
        refine hRet _ _ (bodyPost_1 rfl (RV.tmp rfl) ?_ F_ hF_ hM_)
        exfalso
        omega
      · skip
        have hb45f := eq_of_beq hb45
        refine GP.sem 3 (fun w_ H_ => H_.ldA (o := 0) (ty := 24) (m := 4) (sub := (wl n23)) 2 rfl (by kernel_rfl) rfl rfl) [2, 3, 4, 5, 44, 45] [(2, .int .u64 (u : Int)), (3, .int .u64 (d : Int)), (4, pt p3 0), (5, pt p7 0), (44, .bool true), (45, wv n23)] (by kernel_rfl) (by kernel_rfl) (by kernel_rfl) hS44 ?_
        refine GP.sem 4 (fun w_ H_ => H_.ldA (o := 0) (ty := 24) (m := 4) (sub := (wl t)) 0 rfl (by kernel_rfl) rfl rfl) [2, 3, 5, 44, 45, 46] [(2, .int .u64 (u : Int)), (3, .int .u64 (d : Int)), (5, pt p7 0), (44, .bool true), (45, wv n23), (46, wv t)] (by kernel_rfl) (by kernel_rfl) (by kernel_rfl) hS44 ?_
        refine GP.run [6, 7] [5, 44, 45, 46, 48, 49] [(5, pt p7 0), (44, .bool true), (45, wv n23), (46, wv t), (48, .int .u64 (u : Int)), (49, .int .u64 (d : Int))] [0, 1, 2, 3, 4, 6, 7] (by kernel_rfl) rfl hS44 ?_
        refine GP.sem 8 (fun w_ H_ => H_.ldA (o := 0) (ty := 24) (m := 4) (sub := (wl m)) 1 rfl (by kernel_rfl) rfl rfl) [44, 45, 46, 48, 49, 50] [(44, .bool true), (45, wv n23), (46, wv t), (48, .int .u64 (u : Int)), (49, .int .u64 (d : Int)), (50, wv m)] (by kernel_rfl) (by kernel_rfl) (by kernel_rfl) hS44 ?_
        have hN51 : ndg t ≤ 16 := ndg_K4 ht
        refine GP.call 5 (Of_calls_n t ht w43) (by kernel_rfl) (by kernel_rfl) (fun e_ w50 hR => ?_)
        obtain ⟨A46, c47, rfl, H49⟩ := hR
        have H48 : Hp w [] [.blk p3 (wl t) 24, .blk p7 (wl m) 24, .blk p25 (wl n23) 24, .row A46 (ndg t) c47 22 1 (dg (digs t))] w50 := H42.callNew H49
        have hS52 : Hp w [] [.blk p3 (wl t) 24, .blk p7 (wl m) 24, .blk p25 (wl n23) 24] w50 := H48.sub (List.Sublist.cons_cons _ (List.Sublist.cons_cons _ (List.Sublist.cons_cons _ (List.Sublist.cons _ (List.Sublist.slnil)))))
        refine ⟨_, rfl, hS52, [44, 45, 47, 48, 49, 50], [(44, .bool true), (45, wv n23), (47, .slice A46 (ndg t) c47), (48, .int .u64 (u : Int)), (49, .int .u64 (d : Int)), (50, wv m)], by kernel_rfl, ?_⟩
        have hN58 : ndg m ≤ 16 := ndg_K4 hm
        refine GP.call 9 (Of_calls_n m hm w50) (by kernel_rfl) (by kernel_rfl) (fun e_ w57 hR => ?_)
        obtain ⟨A53, c54, rfl, H56⟩ := hR
        have H55 : Hp w [] [.blk p3 (wl t) 24, .blk p7 (wl m) 24, .blk p25 (wl n23) 24, .row A46 (ndg t) c47 22 1 (dg (digs t)), .row A53 (ndg m) c54 22 1 (dg (digs m))] w57 := H48.callNew H56
        have hS59 : Hp w [] [.blk p3 (wl t) 24, .blk p7 (wl m) 24, .blk p25 (wl n23) 24] w57 := H55.sub (List.Sublist.cons_cons _ (List.Sublist.cons_cons _ (List.Sublist.cons_cons _ (List.Sublist.cons _ (List.Sublist.cons _ (List.Sublist.slnil))))))
        refine ⟨_, rfl, hS59, [44, 45, 47, 48, 49, 51], [(44, .bool true), (45, wv n23), (47, .slice A46 (ndg t) c47), (48, .int .u64 (u : Int)), (49, .int .u64 (d : Int)), (51, .slice A53 (ndg m) c54)], by kernel_rfl, ?_⟩
        have hN66 : ndg (scV t u d m) ≤ 16 := ndg_K4 (scV_lt hm)
        refine GP.call 10 (Scale6_calls t u d m A46 c47 A53 c54 w57 (H55.rdRow 3 rfl) (H55.rdRow 4 rfl) (Nat.le_trans hN51 (by decide)) (Nat.le_trans hN58 (by decide)) hu hd hd0) (by kernel_rfl) (by kernel_rfl) (fun e_ w64 hR => ?_)
        obtain ⟨A60, c61, rfl, hR65, H63⟩ := hR
        have H62 : Hp w [] [.blk p3 (wl t) 24, .blk p7 (wl m) 24, .blk p25 (wl n23) 24, .row A46 (ndg t) c47 22 1 (dg (digs t)), .row A53 (ndg m) c54 22 1 (dg (digs m))] w64 := H55.callNil H63
        have hS67 : Hp w [] [.blk p3 (wl t) 24, .blk p7 (wl m) 24, .blk p25 (wl n23) 24] w64 := H62.sub (List.Sublist.cons_cons _ (List.Sublist.cons_cons _ (List.Sublist.cons_cons _ (List.Sublist.cons _ (List.Sublist.cons _ (List.Sublist.slnil))))))
        refine ⟨_, rfl, hS67, [44, 45, 52], [(44, .bool true), (45, wv n23), (52, .slice A60 (ndg (scV t u d m)) c61)], by kernel_rfl, ?_⟩
        refine GP.call 11 (is6_calls n23 (scV t u d m) A60 c61 w64 (hR65) (Nat.le_trans hN66 (by decide)) (scV_lt hm) (by omega)) (by kernel_rfl) (by kernel_rfl) (fun e_ w68 hR => ?_)
        obtain ⟨rfl, H70⟩ := hR
        have H69 : Hp w [] [.blk p3 (wl t) 24, .blk p7 (wl m) 24, .blk p25 (wl n23) 24, .row A46 (ndg t) c47 22 1 (dg (digs t)), .row A53 (ndg m) c54 22 1 (dg (digs m))] w68 := H62.callNil H70
        have hS71 : Hp w [] [.blk p3 (wl t) 24, .blk p7 (wl m) 24, .blk p25 (wl n23) 24] w68 := H69.sub (List.Sublist.cons_cons _ (List.Sublist.cons_cons _ (List.Sublist.cons_cons _ (List.Sublist.cons _ (List.Sublist.cons _ (List.Sublist.slnil))))))
        refine ⟨_, rfl, hS71, [44, 53], [(44, .bool true), (53, .bool true)], by kernel_rfl, ?_⟩
        refine GP.run [12, 13] [8] [(8, .bool true)] [0, 1, 2, 3, 4, 6, 7, 8, 5, 9, 10, 11, 12, 13] (by kernel_rfl) rfl hS71 ?_
        refine GP.k (by kernel_rfl) hK41 (fun _ _ h => h) ?_
        refine G.ret ?_
        intro F_ hF_ hM_
        refine hRet _ _ (bodyPost_1 rfl (RV.tmp rfl) ?_ F_ hF_ hM_)
        exact ⟨rfl, H69.sub (List.nil_sublist _)⟩
    · skip
      have hb39f := of_decide_eq_true hb39
      have hm0 : m = 0 := (wv_eq (y := 0) hm (by decide)).1 hb39f
      refine G.yes rfl ?_
      refine G.seqK fun K72 hK73 => ?_
      refine G.region ?_
      refine GL.run (j := 3) 3 [9, 37] [(9, pt p25 0), (37, .bool ((((scE d m) : Nat) : Int) == 1))] (by kernel_rfl) rfl ?_
      cases hb74 : ((((scE d m) : Nat) : Int) == 1)
      · skip
        have hb74f := ne_of_beq_false hb74
        refine GL.run (j := 8) 5 [8] [(8, .bool false)] (by kernel_rfl) rfl ?_
        refine GL.k rfl hK73 (fun _ _ h => h) ?_
        refine G.ret ?_
        intro F_ hF_ hM_
        refine hRet _ _ (bodyPost_1 rfl (RV.tmp rfl) ?_ F_ hF_ hM_)
        exfalso
        omega
      · skip
        have hb74f := eq_of_beq hb74
        refine GL.sem (j := 4) (H31.ldA (o := 0) (ty := 24) (m := 4) (sub := (wl n23)) 2 rfl (by kernel_rfl) rfl rfl) [37, 38] [(37, .bool true), (38, wv n23)] (by kernel_rfl) (by kernel_rfl) rfl ?_
        refine GL.run (j := 5) 1 [37, 38, 39] [(37, .bool true), (38, wv n23), (39, .agg #[.int .u64 0, .int .u64 0, .int .u64 0, .int .u64 0])] (by kernel_rfl) rfl ?_
        refine GL.sem (j := 6) (run_arr_eql (P := Try.prog) (t := 24) (n := 4) (k := .u64) (x := (.tmp 38)) (y := (.tmp 39)) (by kernel_rfl) [(wd n23 0 : Int), (wd n23 1 : Int), (wd n23 2 : Int), (wd n23 3 : Int)] [0, 0, 0, 0] rfl rfl _) [37, 40] [(37, .bool true), (40, .bool (decide (([(wd n23 0 : Int), (wd n23 1 : Int), (wd n23 2 : Int), (wd n23 3 : Int)] : List Int) = [0, 0, 0, 0])))] (by kernel_rfl) (by kernel_rfl) rfl ?_
        refine GL.run (j := 8) 2 [8] [(8, .bool (decide (([(wd n23 0 : Int), (wd n23 1 : Int), (wd n23 2 : Int), (wd n23 3 : Int)] : List Int) = [0, 0, 0, 0])))] (by kernel_rfl) rfl ?_
        refine GL.k rfl hK73 (fun _ _ h => h) ?_
        refine G.ret ?_
        intro F_ hF_ hM_
        refine hRet _ _ (bodyPost_1 rfl (RV.tmp rfl) ?_ F_ hF_ hM_)
        have hb75 : (decide (([(wd n23 0 : Int), (wd n23 1 : Int), (wd n23 2 : Int), (wd n23 3 : Int)] : List Int) = [0, 0, 0, 0])) = true := decide_eq_true ((wv_eq (y := 0) n23l (by decide)).2 (by omega))
        rw [hb75]
        exact ⟨rfl, H31.sub (List.nil_sublist _)⟩
  · skip
    have hb36f := eq_of_beq hb36
    have hd0 : d = 0 := by omega
    refine G.yes rfl ?_
    refine G.seqK fun K76 hK77 => ?_
    refine G.region ?_
    refine GL.run (j := 3) 3 [9, 26] [(9, pt p25 0), (26, .bool ((((scE d m) : Nat) : Int) == 5))] (by kernel_rfl) rfl ?_
    cases hb78 : ((((scE d m) : Nat) : Int) == 5)
    · skip
      have hb78f := ne_of_beq_false hb78
      refine GL.run (j := 8) 5 [8] [(8, .bool false)] (by kernel_rfl) rfl ?_
      refine GL.k rfl hK77 (fun _ _ h => h) ?_
      refine G.ret ?_
      intro F_ hF_ hM_
      refine hRet _ _ (bodyPost_1 rfl (RV.tmp rfl) ?_ F_ hF_ hM_)
      exfalso
      omega
    · skip
      have hb78f := eq_of_beq hb78
      refine GL.sem (j := 4) (H31.ldA (o := 0) (ty := 24) (m := 4) (sub := (wl n23)) 2 rfl (by kernel_rfl) rfl rfl) [26, 27] [(26, .bool true), (27, wv n23)] (by kernel_rfl) (by kernel_rfl) rfl ?_
      refine GL.run (j := 5) 1 [26, 27, 28] [(26, .bool true), (27, wv n23), (28, .agg #[.int .u64 0, .int .u64 0, .int .u64 0, .int .u64 0])] (by kernel_rfl) rfl ?_
      refine GL.sem (j := 6) (run_arr_eql (P := Try.prog) (t := 24) (n := 4) (k := .u64) (x := (.tmp 27)) (y := (.tmp 28)) (by kernel_rfl) [(wd n23 0 : Int), (wd n23 1 : Int), (wd n23 2 : Int), (wd n23 3 : Int)] [0, 0, 0, 0] rfl rfl _) [26, 29] [(26, .bool true), (29, .bool (decide (([(wd n23 0 : Int), (wd n23 1 : Int), (wd n23 2 : Int), (wd n23 3 : Int)] : List Int) = [0, 0, 0, 0])))] (by kernel_rfl) (by kernel_rfl) rfl ?_
      refine GL.run (j := 8) 2 [8] [(8, .bool (decide (([(wd n23 0 : Int), (wd n23 1 : Int), (wd n23 2 : Int), (wd n23 3 : Int)] : List Int) = [0, 0, 0, 0])))] (by kernel_rfl) rfl ?_
      refine GL.k rfl hK77 (fun _ _ h => h) ?_
      refine G.ret ?_
      intro F_ hF_ hM_
      refine hRet _ _ (bodyPost_1 rfl (RV.tmp rfl) ?_ F_ hF_ hM_)
      have hb79 : (decide (([(wd n23 0 : Int), (wd n23 1 : Int), (wd n23 2 : Int), (wd n23 3 : Int)] : List Int) = [0, 0, 0, 0])) = true := decide_eq_true ((wv_eq (y := 0) n23l (by decide)).2 (by omega))
      rw [hb79]
      exact ⟨rfl, H31.sub (List.nil_sublist _)⟩
end Go.Proofs.Ytjfllmkihfidcaa
