/- Bits and targets: the walk. -/
import Derived.Test.YtjfllmkihfidcaaIs
import Derived.Test.YtjfllmkihfidcaaLives
import Derived.Test.YtjfllmkihfidcaaEncW
import Derived.Test.YtjfllmkihfidcaaEncT
import Derived.Test.YtjfllmkihfidcaaTargetD
namespace Go.Proofs.Ytjfllmkihfidcaa
open Go.RowKit
theorem u32_nat {n : Int} (h : (Lit.int .u32 n).wf = true) : ∃ m : Nat, n = (m : Int) ∧ m < 4294967296 := by
  simp [Lit.wf, IntKind.min, IntKind.max, IntKind.signed, IntKind.bits] at h
  exact ⟨n.toNat, by omega, by omega⟩
theorem Decode_is (b R E : Nat) (hb : b < 4294967296) (hR : decR b = R) (hE : decE b = E) (w : World) : Calls Try.prog 19 #[.int .u32 (b : Int)] w fun e w' => e = .returned (.tuple #[wv R, .int .i64 ((E : Nat) : Int)]) ∧ Hp w [] [] w' := by
  subst hR hE
  exact Decode_calls b hb w
theorem dec_no {b : Nat} (h : decE b = 6) : decR b = 0 := if_neg (by omega)
theorem TargetDecodes_11 (b t : Nat) (hb : b < 4294967296) (ht : t < K4) (hE : decE b = 0) (ht0 : t = 0) (w : World) : Calls Try.prog 5 #[.int .u32 (b : Int), wv t] w fun e w' => e = .returned (.bool true) ∧ Hp w [] [] w' := by
  refine calls_G (args := [.int .u32 (b : Int), wv t]) Try.func5 rfl Try.ntmps5 rfl ?_
  intro Q0 hRet hNor hPan
  have H := Hp.start w
  have H : Hp w [] [] w := H
  refine G.seqK fun K1 hK2 => ?_
  refine G.region ?_
  obtain ⟨p3, w4, r5, H6⟩ := H.box (P := Try.prog) 24 (wl t) (wv t) rfl
  have H6 : Hp w [] [.blk p3 (wl t) 24] w4 := H6
  refine GL.sem (j := 1) (r5) [0, 3] [(0, .int .u32 (b : Int)), (3, pt p3 0)] (by kernel_rfl) (by kernel_rfl) rfl ?_
  refine GL.run (j := 2) 1 [0, 3] [(0, .int .u32 (b : Int)), (3, pt p3 0)] (by kernel_rfl) rfl ?_
  refine GL.k rfl hK2 (fun _ _ h => h) ?_
  refine G.seqK fun K7 hK8 => ?_
  refine G.seqK fun K9 hK10 => ?_
  refine G.region ?_
  refine GL.call (j := 1) (lives_calls w4) (by kernel_rfl) rfl (fun e_ w11 hR => ?_)
  obtain ⟨rfl, H13⟩ := hR
  have H12 : Hp w [] [.blk p3 (wl t) 24] w11 := H6.callNil H13
  refine ⟨_, rfl, [0, 3, 14], [(0, .int .u32 (b : Int)), (3, pt p3 0), (14, .bool true)], by kernel_rfl, ?_⟩
  refine GL.run (j := 2) 1 [0, 3, 15] [(0, .int .u32 (b : Int)), (3, pt p3 0), (15, .bool false)] (by kernel_rfl) rfl ?_
  refine GL.k rfl hK10 (fun _ _ h => h) ?_
  refine G.no rfl ?_
  refine G.skipK hK8 (fun _ _ h => h) ?_
  refine G.seqK fun K14 hK15 => ?_
  refine G.region ?_
  refine GL.run (j := 1) 1 [0, 3, 17] [(0, .int .u32 (b : Int)), (3, pt p3 0), (17, .int .u32 (b : Int))] (by kernel_rfl) rfl ?_
  refine GL.call (j := 2) (Decode_is b (decR b) 0 hb rfl hE w11) (by kernel_rfl) rfl (fun e_ w16 hR => ?_)
  obtain ⟨rfl, H18⟩ := hR
  have H17 : Hp w [] [.blk p3 (wl t) 24] w16 := H12.callNil H18
  refine ⟨_, rfl, [0, 3, 18], [(0, .int .u32 (b : Int)), (3, pt p3 0), (18, .tuple #[wv (decR b), .int .i64 0])], by kernel_rfl, ?_⟩
  refine GL.run (j := 5) 3 [0, 3, 19, 20] [(0, .int .u32 (b : Int)), (3, pt p3 0), (19, wv (decR b)), (20, .int .i64 0)] (by kernel_rfl) rfl ?_
  obtain ⟨p19, w20, r21, H22⟩ := H17.alloc (P := Try.prog) 24 z4 (by kernel_rfl)
  have H22 : Hp w [] [.blk p3 (wl t) 24, .blk p19 z4 24] w20 := H22
  refine GL.sem (j := 6) (r21) [0, 3, 5, 19, 20] [(0, .int .u32 (b : Int)), (3, pt p3 0), (5, pt p19 0), (19, wv (decR b)), (20, .int .i64 0)] (by kernel_rfl) (by kernel_rfl) rfl ?_
  obtain ⟨w23, r24, H25⟩ := H22.stA (P := Try.prog) (o := 0) (vs := (wl (decR b))) (ty := 24) (m := 4) 1 rfl (by kernel_rfl) rfl (by first | decide | simp) (wl_one _)
  have H25 : Hp w [] [.blk p3 (wl t) 24, .blk p19 (wl (decR b)) 24] w23 := H25
  refine GL.semU (j := 7) r24 [0, 3, 5, 20] [(0, .int .u32 (b : Int)), (3, pt p3 0), (5, pt p19 0), (20, .int .i64 0)] (by kernel_rfl) rfl rfl rfl ?_
  refine GL.run (j := 8) 1 [0, 3, 5, 6] [(0, .int .u32 (b : Int)), (3, pt p3 0), (5, pt p19 0), (6, .int .i64 0)] (by kernel_rfl) rfl ?_
  refine GL.k rfl hK15 (fun _ _ h => h) ?_
  refine G.seqK fun K26 hK27 => ?_
  refine G.region ?_
  refine GL.run (j := 1) 1 [3, 5, 6, 22] [(3, pt p3 0), (5, pt p19 0), (6, .int .i64 0), (22, .int .u32 (b : Int))] (by kernel_rfl) rfl ?_
  have hN33 : ndg (refT b) ≤ 16 := (by rw [← refR_dec hE]; exact ndg_K4 (decR_lt b))
  refine GL.call (j := 2) (Decode6_calls b hb w23) (by kernel_rfl) rfl (fun e_ w32 hR => ?_)
  obtain ⟨A28, c29, rfl, H31⟩ := hR
  rw [(refOK_iff b).1, hE]
  have H30 : Hp w [] [.blk p3 (wl t) 24, .blk p19 (wl (decR b)) 24, .row A28 (ndg (refT b)) c29 22 1 (dg (digs (refT b)))] w32 := H25.callNew H31
  rw [show decide ((0 : Nat) = 0) = true from rfl]
  refine ⟨_, rfl, [3, 5, 6, 23], [(3, pt p3 0), (5, pt p19 0), (6, .int .i64 0), (23, .tuple #[.slice A28 (ndg (refT b)) c29, .bool true])], by kernel_rfl, ?_⟩
  refine GL.run (j := 7) 5 [3, 5, 6, 7, 8] [(3, pt p3 0), (5, pt p19 0), (6, .int .i64 0), (7, .slice A28 (ndg (refT b)) c29), (8, .bool true)] (by kernel_rfl) rfl ?_
  refine GL.k rfl hK27 (fun _ _ h => h) ?_
  refine G.seqK fun K34 hK35 => ?_
  refine G.seqK fun K36 hK37 => ?_
  refine G.region ?_
  refine GL.run (j := 20) 20 [3, 5, 7, 8, 43, 45] [(3, pt p3 0), (5, pt p19 0), (7, .slice A28 (ndg (refT b)) c29), (8, .bool true), (43, .bool false), (45, .bool true)] (by kernel_rfl) rfl ?_
  refine GL.sem (j := 21) (H30.ldA (o := 0) (ty := 24) (m := 4) (sub := (wl (decR b))) 1 rfl (by kernel_rfl) rfl rfl) [3, 5, 7, 8, 43, 45, 46] [(3, pt p3 0), (5, pt p19 0), (7, .slice A28 (ndg (refT b)) c29), (8, .bool true), (43, .bool false), (45, .bool true), (46, wv (decR b))] (by kernel_rfl) (by kernel_rfl) rfl ?_
  refine GL.run (j := 22) 1 [3, 5, 8, 43, 45, 46, 47] [(3, pt p3 0), (5, pt p19 0), (8, .bool true), (43, .bool false), (45, .bool true), (46, wv (decR b)), (47, .slice A28 (ndg (refT b)) c29)] (by kernel_rfl) rfl ?_
  refine GL.call (j := 23) (is6_calls (decR b) (refT b) A28 c29 w32 (H30.rdRow 2 rfl) (Nat.le_trans hN33 (by decide)) ((by rw [← refR_dec hE]; exact decR_lt b)) (refR_dec hE)) (by kernel_rfl) rfl (fun e_ w38 hR => ?_)
  obtain ⟨rfl, H40⟩ := hR
  have H39 : Hp w [] [.blk p3 (wl t) 24, .blk p19 (wl (decR b)) 24, .row A28 (ndg (refT b)) c29 22 1 (dg (digs (refT b)))] w38 := H30.callNil H40
  refine ⟨_, rfl, [3, 5, 8, 43, 45, 48], [(3, pt p3 0), (5, pt p19 0), (8, .bool true), (43, .bool false), (45, .bool true), (48, .bool true)], by kernel_rfl, ?_⟩
  refine GL.run (j := 26) 3 [3, 5, 8, 51] [(3, pt p3 0), (5, pt p19 0), (8, .bool true), (51, .bool false)] (by kernel_rfl) rfl ?_
  refine GL.k rfl hK37 (fun _ _ h => h) ?_
  refine G.no rfl ?_
  refine G.skipK hK35 (fun _ _ h => h) ?_
  refine G.seqK fun K41 hK42 => ?_
  refine G.seqK fun K43 hK44 => ?_
  refine G.region ?_
  refine GL.run (j := 1) 1 [3, 5, 52] [(3, pt p3 0), (5, pt p19 0), (52, .bool true)] (by kernel_rfl) rfl ?_
  refine GL.k rfl hK44 (fun _ _ h => h) ?_
  refine G.yes rfl ?_
  refine G.seqK fun K45 hK46 => ?_
  refine G.region ?_
  refine GL.sem (j := 1) (H39.ldA (o := 0) (ty := 24) (m := 4) (sub := (wl (decR b))) 1 rfl (by kernel_rfl) rfl rfl) [3, 5, 54] [(3, pt p3 0), (5, pt p19 0), (54, wv (decR b))] (by kernel_rfl) (by kernel_rfl) rfl ?_
  refine GL.call (j := 2) (Encode_calls (decR b) (decR_lt b) w38) (by kernel_rfl) rfl (fun e_ w47 hR => ?_)
  obtain ⟨rfl, H49⟩ := hR
  have H48 : Hp w [] [.blk p3 (wl t) 24, .blk p19 (wl (decR b)) 24, .row A28 (ndg (refT b)) c29 22 1 (dg (digs (refT b)))] w47 := H39.callNil H49
  refine ⟨_, rfl, [3, 5, 55], [(3, pt p3 0), (5, pt p19 0), (55, .int .u32 (((encV (decR b)) : Nat) : Int))], by kernel_rfl, ?_⟩
  refine GL.call (j := 3) (Decode_is (encV (decR b)) (decR b) 0 (encV_lt (decR_lt b)) ((decR_enc (decR_lt b) (back_dec hE).2).trans (back_dec hE).1) (decE_enc (decR_lt b) (back_dec hE).2) w47) (by kernel_rfl) rfl (fun e_ w50 hR => ?_)
  obtain ⟨rfl, H52⟩ := hR
  have H51 : Hp w [] [.blk p3 (wl t) 24, .blk p19 (wl (decR b)) 24, .row A28 (ndg (refT b)) c29 22 1 (dg (digs (refT b)))] w50 := H48.callNil H52
  refine ⟨_, rfl, [3, 5, 56], [(3, pt p3 0), (5, pt p19 0), (56, .tuple #[wv (decR b), .int .i64 0])], by kernel_rfl, ?_⟩
  refine GL.run (j := 6) 3 [3, 5, 57, 58] [(3, pt p3 0), (5, pt p19 0), (57, wv (decR b)), (58, .int .i64 0)] (by kernel_rfl) rfl ?_
  obtain ⟨p53, w54, r55, H56⟩ := H51.alloc (P := Try.prog) 24 z4 (by kernel_rfl)
  have H56 : Hp w [] [.blk p3 (wl t) 24, .blk p19 (wl (decR b)) 24, .row A28 (ndg (refT b)) c29 22 1 (dg (digs (refT b))), .blk p53 z4 24] w54 := H56
  refine GL.sem (j := 7) (r55) [3, 5, 9, 57, 58] [(3, pt p3 0), (5, pt p19 0), (9, pt p53 0), (57, wv (decR b)), (58, .int .i64 0)] (by kernel_rfl) (by kernel_rfl) rfl ?_
  obtain ⟨w57, r58, H59⟩ := H56.stA (P := Try.prog) (o := 0) (vs := (wl (decR b))) (ty := 24) (m := 4) 3 rfl (by kernel_rfl) rfl (by first | decide | simp) (wl_one _)
  have H59 : Hp w [] [.blk p3 (wl t) 24, .blk p19 (wl (decR b)) 24, .row A28 (ndg (refT b)) c29 22 1 (dg (digs (refT b))), .blk p53 (wl (decR b)) 24] w57 := H59
  refine GL.semU (j := 8) r58 [3, 5, 9, 58] [(3, pt p3 0), (5, pt p19 0), (9, pt p53 0), (58, .int .i64 0)] (by kernel_rfl) rfl rfl rfl ?_
  refine GL.run (j := 9) 1 [3, 5, 9, 10] [(3, pt p3 0), (5, pt p19 0), (9, pt p53 0), (10, .int .i64 0)] (by kernel_rfl) rfl ?_
  refine GL.k rfl hK46 (fun _ _ h => h) ?_
  refine G.seqK fun K60 hK61 => ?_
  refine G.region ?_
  refine GL.run (j := 3) 3 [3, 5, 9, 61] [(3, pt p3 0), (5, pt p19 0), (9, pt p53 0), (61, .bool false)] (by kernel_rfl) rfl ?_
  refine GL.sem (j := 4) (H59.ldA (o := 0) (ty := 24) (m := 4) (sub := (wl (decR b))) 3 rfl (by kernel_rfl) rfl rfl) [3, 5, 61, 62] [(3, pt p3 0), (5, pt p19 0), (61, .bool false), (62, wv (decR b))] (by kernel_rfl) (by kernel_rfl) rfl ?_
  refine GL.sem (j := 5) (H59.ldA (o := 0) (ty := 24) (m := 4) (sub := (wl (decR b))) 1 rfl (by kernel_rfl) rfl rfl) [3, 61, 62, 63] [(3, pt p3 0), (61, .bool false), (62, wv (decR b)), (63, wv (decR b))] (by kernel_rfl) (by kernel_rfl) rfl ?_
  refine GL.sem (j := 6) (run_arr_neq (P := Try.prog) (t := 24) (n := 4) (k := .u64) (x := (.tmp 62)) (y := (.tmp 63)) (by kernel_rfl) [(wd (decR b) 0 : Int), (wd (decR b) 1 : Int), (wd (decR b) 2 : Int), (wd (decR b) 3 : Int)] [(wd (decR b) 0 : Int), (wd (decR b) 1 : Int), (wd (decR b) 2 : Int), (wd (decR b) 3 : Int)] rfl rfl _) [3, 61, 64] [(3, pt p3 0), (61, .bool false), (64, .bool (!(decide (([(wd (decR b) 0 : Int), (wd (decR b) 1 : Int), (wd (decR b) 2 : Int), (wd (decR b) 3 : Int)] : List Int) = [(wd (decR b) 0 : Int), (wd (decR b) 1 : Int), (wd (decR b) 2 : Int), (wd (decR b) 3 : Int)]))))] (by kernel_rfl) (by kernel_rfl) rfl ?_
  refine GL.run (j := 7) 1 [3, 65] [(3, pt p3 0), (65, .bool (!(decide (([(wd (decR b) 0 : Int), (wd (decR b) 1 : Int), (wd (decR b) 2 : Int), (wd (decR b) 3 : Int)] : List Int) = [(wd (decR b) 0 : Int), (wd (decR b) 1 : Int), (wd (decR b) 2 : Int), (wd (decR b) 3 : Int)]))))] (by kernel_rfl) rfl ?_
  refine GL.k rfl hK61 (fun _ _ h => h) ?_
  have hb62 : (!(decide (([(wd (decR b) 0 : Int), (wd (decR b) 1 : Int), (wd (decR b) 2 : Int), (wd (decR b) 3 : Int)] : List Int) = [(wd (decR b) 0 : Int), (wd (decR b) 1 : Int), (wd (decR b) 2 : Int), (wd (decR b) 3 : Int)]))) = false := by rw [show (decide (([(wd (decR b) 0 : Int), (wd (decR b) 1 : Int), (wd (decR b) 2 : Int), (wd (decR b) 3 : Int)] : List Int) = [(wd (decR b) 0 : Int), (wd (decR b) 1 : Int), (wd (decR b) 2 : Int), (wd (decR b) 3 : Int)])) = true from decide_eq_true rfl]; rfl
  rw [hb62]
  refine G.no rfl ?_
  refine G.skipK hK42 (fun _ _ h => h) ?_
  refine G.seqK fun K63 hK64 => ?_
  refine G.region ?_
  refine GL.sem (j := 1) (H59.ldA (o := 0) (ty := 24) (m := 4) (sub := (wl t)) 0 rfl (by kernel_rfl) rfl rfl) [3, 66] [(3, pt p3 0), (66, wv t)] (by kernel_rfl) (by kernel_rfl) rfl ?_
  refine GL.call (j := 2) (Encode_calls t ht w57) (by kernel_rfl) rfl (fun e_ w65 hR => ?_)
  obtain ⟨rfl, H67⟩ := hR
  have H66 : Hp w [] [.blk p3 (wl t) 24, .blk p19 (wl (decR b)) 24, .row A28 (ndg (refT b)) c29 22 1 (dg (digs (refT b))), .blk p53 (wl (decR b)) 24] w65 := H59.callNil H67
  refine ⟨_, rfl, [3, 67], [(3, pt p3 0), (67, .int .u32 (((encV t) : Nat) : Int))], by kernel_rfl, ?_⟩
  refine GL.run (j := 3) 1 [3, 11] [(3, pt p3 0), (11, .int .u32 (((encV t) : Nat) : Int))] (by kernel_rfl) rfl ?_
  refine GL.k rfl hK64 (fun _ _ h => h) ?_
  refine G.seqK fun K68 hK69 => ?_
  refine G.seqK fun K70 hK71 => ?_
  refine G.region ?_
  refine GL.run (j := 1) 1 [3, 11, 68] [(3, pt p3 0), (11, .int .u32 (((encV t) : Nat) : Int)), (68, .int .u32 (((encV t) : Nat) : Int))] (by kernel_rfl) rfl ?_
  refine GL.sem (j := 2) (H66.ldA (o := 0) (ty := 24) (m := 4) (sub := (wl t)) 0 rfl (by kernel_rfl) rfl rfl) [3, 11, 68, 69] [(3, pt p3 0), (11, .int .u32 (((encV t) : Nat) : Int)), (68, .int .u32 (((encV t) : Nat) : Int)), (69, wv t)] (by kernel_rfl) (by kernel_rfl) rfl ?_
  have hN77 : ndg t ≤ 16 := ndg_K4 ht
  refine GL.call (j := 3) (Of_calls_n t ht w65) (by kernel_rfl) rfl (fun e_ w76 hR => ?_)
  obtain ⟨A72, c73, rfl, H75⟩ := hR
  have H74 : Hp w [] [.blk p3 (wl t) 24, .blk p19 (wl (decR b)) 24, .row A28 (ndg (refT b)) c29 22 1 (dg (digs (refT b))), .blk p53 (wl (decR b)) 24, .row A72 (ndg t) c73 22 1 (dg (digs t))] w76 := H66.callNew H75
  refine ⟨_, rfl, [3, 11, 68, 70], [(3, pt p3 0), (11, .int .u32 (((encV t) : Nat) : Int)), (68, .int .u32 (((encV t) : Nat) : Int)), (70, .slice A72 (ndg t) c73)], by kernel_rfl, ?_⟩
  refine GL.call (j := 4) (Encode6_calls t ht A72 c73 w76 (H74.rdRow 4 rfl)) (by kernel_rfl) rfl (fun e_ w78 hR => ?_)
  obtain ⟨rfl, H80⟩ := hR
  have H79 : Hp w [] [.blk p3 (wl t) 24, .blk p19 (wl (decR b)) 24, .row A28 (ndg (refT b)) c29 22 1 (dg (digs (refT b))), .blk p53 (wl (decR b)) 24, .row A72 (ndg t) c73 22 1 (dg (digs t))] w78 := H74.callNil H80
  refine ⟨_, rfl, [3, 11, 68, 71], [(3, pt p3 0), (11, .int .u32 (((encV t) : Nat) : Int)), (68, .int .u32 (((encV t) : Nat) : Int)), (71, .int .u32 (((encV t) : Nat) : Int))], by kernel_rfl, ?_⟩
  refine GL.run (j := 5) 1 [3, 11, 72] [(3, pt p3 0), (11, .int .u32 (((encV t) : Nat) : Int)), (72, .bool ((((encV t) : Nat) : Int) != (((encV t) : Nat) : Int)))] (by kernel_rfl) rfl ?_
  refine GL.k rfl hK71 (fun _ _ h => h) ?_
  cases hb81 : ((((encV t) : Nat) : Int) != (((encV t) : Nat) : Int))
  · skip
    have hb81f : (((encV t) : Nat) : Int) = (((encV t) : Nat) : Int) := bne_eq_false_iff_eq.1 hb81
    refine G.no rfl ?_
    refine G.skipK hK69 (fun _ _ h => h) ?_
    refine G.seqK fun K82 hK83 => ?_
    refine G.region ?_
    refine GL.run (j := 1) 1 [3, 11, 74] [(3, pt p3 0), (11, .int .u32 (((encV t) : Nat) : Int)), (74, .int .u32 (((encV t) : Nat) : Int))] (by kernel_rfl) rfl ?_
    refine GL.call (j := 2) (Decode_is (encV t) 0 6 (encV_lt ht) (by rw [ht0]; decide +kernel) (by rw [ht0]; decide +kernel) w78) (by kernel_rfl) rfl (fun e_ w84 hR => ?_)
    obtain ⟨rfl, H86⟩ := hR
    have H85 : Hp w [] [.blk p3 (wl t) 24, .blk p19 (wl (decR b)) 24, .row A28 (ndg (refT b)) c29 22 1 (dg (digs (refT b))), .blk p53 (wl (decR b)) 24, .row A72 (ndg t) c73 22 1 (dg (digs t))] w84 := H79.callNil H86
    refine ⟨_, rfl, [3, 11, 75], [(3, pt p3 0), (11, .int .u32 (((encV t) : Nat) : Int)), (75, .tuple #[wv 0, .int .i64 6])], by kernel_rfl, ?_⟩
    refine GL.run (j := 5) 3 [3, 11, 76, 77] [(3, pt p3 0), (11, .int .u32 (((encV t) : Nat) : Int)), (76, wv 0), (77, .int .i64 6)] (by kernel_rfl) rfl ?_
    obtain ⟨p87, w88, r89, H90⟩ := H85.alloc (P := Try.prog) 24 z4 (by kernel_rfl)
    have H90 : Hp w [] [.blk p3 (wl t) 24, .blk p19 (wl (decR b)) 24, .row A28 (ndg (refT b)) c29 22 1 (dg (digs (refT b))), .blk p53 (wl (decR b)) 24, .row A72 (ndg t) c73 22 1 (dg (digs t)), .blk p87 z4 24] w88 := H90
    refine GL.sem (j := 6) (r89) [3, 11, 12, 76, 77] [(3, pt p3 0), (11, .int .u32 (((encV t) : Nat) : Int)), (12, pt p87 0), (76, wv 0), (77, .int .i64 6)] (by kernel_rfl) (by kernel_rfl) rfl ?_
    obtain ⟨w91, r92, H93⟩ := H90.stA (P := Try.prog) (o := 0) (vs := (wl 0)) (ty := 24) (m := 4) 5 rfl (by kernel_rfl) rfl (by first | decide | simp) (wl_one _)
    have H93 : Hp w [] [.blk p3 (wl t) 24, .blk p19 (wl (decR b)) 24, .row A28 (ndg (refT b)) c29 22 1 (dg (digs (refT b))), .blk p53 (wl (decR b)) 24, .row A72 (ndg t) c73 22 1 (dg (digs t)), .blk p87 (wl 0) 24] w91 := H93
    refine GL.semU (j := 7) r92 [3, 11, 12, 77] [(3, pt p3 0), (11, .int .u32 (((encV t) : Nat) : Int)), (12, pt p87 0), (77, .int .i64 6)] (by kernel_rfl) rfl rfl rfl ?_
    refine GL.run (j := 8) 1 [3, 11, 12, 13] [(3, pt p3 0), (11, .int .u32 (((encV t) : Nat) : Int)), (12, pt p87 0), (13, .int .i64 6)] (by kernel_rfl) rfl ?_
    refine GL.k rfl hK83 (fun _ _ h => h) ?_
    refine G.seqK fun K94 hK95 => ?_
    refine G.region ?_
    refine GL.sem (j := 1) (H93.ldA (o := 0) (ty := 24) (m := 4) (sub := (wl t)) 0 rfl (by kernel_rfl) rfl rfl) [3, 11, 12, 13, 78] [(3, pt p3 0), (11, .int .u32 (((encV t) : Nat) : Int)), (12, pt p87 0), (13, .int .i64 6), (78, wv t)] (by kernel_rfl) (by kernel_rfl) rfl ?_
    refine GL.run (j := 2) 1 [3, 11, 12, 13, 78, 79] [(3, pt p3 0), (11, .int .u32 (((encV t) : Nat) : Int)), (12, pt p87 0), (13, .int .i64 6), (78, wv t), (79, .agg #[.int .u64 0, .int .u64 0, .int .u64 0, .int .u64 0])] (by kernel_rfl) rfl ?_
    refine GL.sem (j := 3) (run_arr_eql (P := Try.prog) (t := 24) (n := 4) (k := .u64) (x := (.tmp 78)) (y := (.tmp 79)) (by kernel_rfl) [(wd t 0 : Int), (wd t 1 : Int), (wd t 2 : Int), (wd t 3 : Int)] [0, 0, 0, 0] rfl rfl _) [3, 11, 12, 13, 80] [(3, pt p3 0), (11, .int .u32 (((encV t) : Nat) : Int)), (12, pt p87 0), (13, .int .i64 6), (80, .bool (decide (([(wd t 0 : Int), (wd t 1 : Int), (wd t 2 : Int), (wd t 3 : Int)] : List Int) = [0, 0, 0, 0])))] (by kernel_rfl) (by kernel_rfl) rfl ?_
    refine GL.run (j := 4) 1 [3, 11, 12, 13, 81] [(3, pt p3 0), (11, .int .u32 (((encV t) : Nat) : Int)), (12, pt p87 0), (13, .int .i64 6), (81, .bool (decide (([(wd t 0 : Int), (wd t 1 : Int), (wd t 2 : Int), (wd t 3 : Int)] : List Int) = [0, 0, 0, 0])))] (by kernel_rfl) rfl ?_
    have hb96 : (decide (([(wd t 0 : Int), (wd t 1 : Int), (wd t 2 : Int), (wd t 3 : Int)] : List Int) = [0, 0, 0, 0])) = true := decide_eq_true ((wv_eq (y := 0) ht (by decide)).2 ht0)
    rw [hb96]
    refine GL.run (j := 20) 16 [4] [(4, .bool true)] (by kernel_rfl) rfl ?_
    refine GL.k rfl hK95 (fun _ _ h => h) ?_
    refine G.ret ?_
    intro F_ hF_ hM_
    refine hRet _ _ (bodyPost_1 rfl (RV.tmp rfl) ?_ F_ hF_ hM_)
    exact ⟨rfl, H93.sub (List.nil_sublist _)⟩
  · skip
    have hb81f : (((encV t) : Nat) : Int) ≠ (((encV t) : Nat) : Int) := bne_iff_ne.1 hb81
    refine G.yes rfl ?_
    refine G.seqK fun K97 hK98 => ?_
    refine G.region ?_
    refine GL.run (j := 1) 1 [4] [(4, .bool false)] (by kernel_rfl) rfl ?_
    refine GL.k rfl hK98 (fun _ _ h => h) ?_
    refine G.ret ?_
    intro F_ hF_ hM_
    refine hRet _ _ (bodyPost_1 rfl (RV.tmp rfl) ?_ F_ hF_ hM_)
    exfalso
    omega
theorem TargetDecodes_10 (b t : Nat) (hb : b < 4294967296) (ht : t < K4) (hE : decE b = 0) (ht0 : t ≠ 0) (w : World) : Calls Try.prog 5 #[.int .u32 (b : Int), wv t] w fun e w' => e = .returned (.bool true) ∧ Hp w [] [] w' := by
  refine calls_G (args := [.int .u32 (b : Int), wv t]) Try.func5 rfl Try.ntmps5 rfl ?_
  intro Q0 hRet hNor hPan
  have H := Hp.start w
  have H : Hp w [] [] w := H
  refine G.seqK fun K1 hK2 => ?_
  refine G.region ?_
  obtain ⟨p3, w4, r5, H6⟩ := H.box (P := Try.prog) 24 (wl t) (wv t) rfl
  have H6 : Hp w [] [.blk p3 (wl t) 24] w4 := H6
  refine GL.sem (j := 1) (r5) [0, 3] [(0, .int .u32 (b : Int)), (3, pt p3 0)] (by kernel_rfl) (by kernel_rfl) rfl ?_
  refine GL.run (j := 2) 1 [0, 3] [(0, .int .u32 (b : Int)), (3, pt p3 0)] (by kernel_rfl) rfl ?_
  refine GL.k rfl hK2 (fun _ _ h => h) ?_
  refine G.seqK fun K7 hK8 => ?_
  refine G.seqK fun K9 hK10 => ?_
  refine G.region ?_
  refine GL.call (j := 1) (lives_calls w4) (by kernel_rfl) rfl (fun e_ w11 hR => ?_)
  obtain ⟨rfl, H13⟩ := hR
  have H12 : Hp w [] [.blk p3 (wl t) 24] w11 := H6.callNil H13
  refine ⟨_, rfl, [0, 3, 14], [(0, .int .u32 (b : Int)), (3, pt p3 0), (14, .bool true)], by kernel_rfl, ?_⟩
  refine GL.run (j := 2) 1 [0, 3, 15] [(0, .int .u32 (b : Int)), (3, pt p3 0), (15, .bool false)] (by kernel_rfl) rfl ?_
  refine GL.k rfl hK10 (fun _ _ h => h) ?_
  refine G.no rfl ?_
  refine G.skipK hK8 (fun _ _ h => h) ?_
  refine G.seqK fun K14 hK15 => ?_
  refine G.region ?_
  refine GL.run (j := 1) 1 [0, 3, 17] [(0, .int .u32 (b : Int)), (3, pt p3 0), (17, .int .u32 (b : Int))] (by kernel_rfl) rfl ?_
  refine GL.call (j := 2) (Decode_is b (decR b) 0 hb rfl hE w11) (by kernel_rfl) rfl (fun e_ w16 hR => ?_)
  obtain ⟨rfl, H18⟩ := hR
  have H17 : Hp w [] [.blk p3 (wl t) 24] w16 := H12.callNil H18
  refine ⟨_, rfl, [0, 3, 18], [(0, .int .u32 (b : Int)), (3, pt p3 0), (18, .tuple #[wv (decR b), .int .i64 0])], by kernel_rfl, ?_⟩
  refine GL.run (j := 5) 3 [0, 3, 19, 20] [(0, .int .u32 (b : Int)), (3, pt p3 0), (19, wv (decR b)), (20, .int .i64 0)] (by kernel_rfl) rfl ?_
  obtain ⟨p19, w20, r21, H22⟩ := H17.alloc (P := Try.prog) 24 z4 (by kernel_rfl)
  have H22 : Hp w [] [.blk p3 (wl t) 24, .blk p19 z4 24] w20 := H22
  refine GL.sem (j := 6) (r21) [0, 3, 5, 19, 20] [(0, .int .u32 (b : Int)), (3, pt p3 0), (5, pt p19 0), (19, wv (decR b)), (20, .int .i64 0)] (by kernel_rfl) (by kernel_rfl) rfl ?_
  obtain ⟨w23, r24, H25⟩ := H22.stA (P := Try.prog) (o := 0) (vs := (wl (decR b))) (ty := 24) (m := 4) 1 rfl (by kernel_rfl) rfl (by first | decide | simp) (wl_one _)
  have H25 : Hp w [] [.blk p3 (wl t) 24, .blk p19 (wl (decR b)) 24] w23 := H25
  refine GL.semU (j := 7) r24 [0, 3, 5, 20] [(0, .int .u32 (b : Int)), (3, pt p3 0), (5, pt p19 0), (20, .int .i64 0)] (by kernel_rfl) rfl rfl rfl ?_
  refine GL.run (j := 8) 1 [0, 3, 5, 6] [(0, .int .u32 (b : Int)), (3, pt p3 0), (5, pt p19 0), (6, .int .i64 0)] (by kernel_rfl) rfl ?_
  refine GL.k rfl hK15 (fun _ _ h => h) ?_
  refine G.seqK fun K26 hK27 => ?_
  refine G.region ?_
  refine GL.run (j := 1) 1 [3, 5, 6, 22] [(3, pt p3 0), (5, pt p19 0), (6, .int .i64 0), (22, .int .u32 (b : Int))] (by kernel_rfl) rfl ?_
  have hN33 : ndg (refT b) ≤ 16 := (by rw [← refR_dec hE]; exact ndg_K4 (decR_lt b))
  refine GL.call (j := 2) (Decode6_calls b hb w23) (by kernel_rfl) rfl (fun e_ w32 hR => ?_)
  obtain ⟨A28, c29, rfl, H31⟩ := hR
  rw [(refOK_iff b).1, hE]
  have H30 : Hp w [] [.blk p3 (wl t) 24, .blk p19 (wl (decR b)) 24, .row A28 (ndg (refT b)) c29 22 1 (dg (digs (refT b)))] w32 := H25.callNew H31
  rw [show decide ((0 : Nat) = 0) = true from rfl]
  refine ⟨_, rfl, [3, 5, 6, 23], [(3, pt p3 0), (5, pt p19 0), (6, .int .i64 0), (23, .tuple #[.slice A28 (ndg (refT b)) c29, .bool true])], by kernel_rfl, ?_⟩
  refine GL.run (j := 7) 5 [3, 5, 6, 7, 8] [(3, pt p3 0), (5, pt p19 0), (6, .int .i64 0), (7, .slice A28 (ndg (refT b)) c29), (8, .bool true)] (by kernel_rfl) rfl ?_
  refine GL.k rfl hK27 (fun _ _ h => h) ?_
  refine G.seqK fun K34 hK35 => ?_
  refine G.seqK fun K36 hK37 => ?_
  refine G.region ?_
  refine GL.run (j := 20) 20 [3, 5, 7, 8, 43, 45] [(3, pt p3 0), (5, pt p19 0), (7, .slice A28 (ndg (refT b)) c29), (8, .bool true), (43, .bool false), (45, .bool true)] (by kernel_rfl) rfl ?_
  refine GL.sem (j := 21) (H30.ldA (o := 0) (ty := 24) (m := 4) (sub := (wl (decR b))) 1 rfl (by kernel_rfl) rfl rfl) [3, 5, 7, 8, 43, 45, 46] [(3, pt p3 0), (5, pt p19 0), (7, .slice A28 (ndg (refT b)) c29), (8, .bool true), (43, .bool false), (45, .bool true), (46, wv (decR b))] (by kernel_rfl) (by kernel_rfl) rfl ?_
  refine GL.run (j := 22) 1 [3, 5, 8, 43, 45, 46, 47] [(3, pt p3 0), (5, pt p19 0), (8, .bool true), (43, .bool false), (45, .bool true), (46, wv (decR b)), (47, .slice A28 (ndg (refT b)) c29)] (by kernel_rfl) rfl ?_
  refine GL.call (j := 23) (is6_calls (decR b) (refT b) A28 c29 w32 (H30.rdRow 2 rfl) (Nat.le_trans hN33 (by decide)) ((by rw [← refR_dec hE]; exact decR_lt b)) (refR_dec hE)) (by kernel_rfl) rfl (fun e_ w38 hR => ?_)
  obtain ⟨rfl, H40⟩ := hR
  have H39 : Hp w [] [.blk p3 (wl t) 24, .blk p19 (wl (decR b)) 24, .row A28 (ndg (refT b)) c29 22 1 (dg (digs (refT b)))] w38 := H30.callNil H40
  refine ⟨_, rfl, [3, 5, 8, 43, 45, 48], [(3, pt p3 0), (5, pt p19 0), (8, .bool true), (43, .bool false), (45, .bool true), (48, .bool true)], by kernel_rfl, ?_⟩
  refine GL.run (j := 26) 3 [3, 5, 8, 51] [(3, pt p3 0), (5, pt p19 0), (8, .bool true), (51, .bool false)] (by kernel_rfl) rfl ?_
  refine GL.k rfl hK37 (fun _ _ h => h) ?_
  refine G.no rfl ?_
  refine G.skipK hK35 (fun _ _ h => h) ?_
  refine G.seqK fun K41 hK42 => ?_
  refine G.seqK fun K43 hK44 => ?_
  refine G.region ?_
  refine GL.run (j := 1) 1 [3, 5, 52] [(3, pt p3 0), (5, pt p19 0), (52, .bool true)] (by kernel_rfl) rfl ?_
  refine GL.k rfl hK44 (fun _ _ h => h) ?_
  refine G.yes rfl ?_
  refine G.seqK fun K45 hK46 => ?_
  refine G.region ?_
  refine GL.sem (j := 1) (H39.ldA (o := 0) (ty := 24) (m := 4) (sub := (wl (decR b))) 1 rfl (by kernel_rfl) rfl rfl) [3, 5, 54] [(3, pt p3 0), (5, pt p19 0), (54, wv (decR b))] (by kernel_rfl) (by kernel_rfl) rfl ?_
  refine GL.call (j := 2) (Encode_calls (decR b) (decR_lt b) w38) (by kernel_rfl) rfl (fun e_ w47 hR => ?_)
  obtain ⟨rfl, H49⟩ := hR
  have H48 : Hp w [] [.blk p3 (wl t) 24, .blk p19 (wl (decR b)) 24, .row A28 (ndg (refT b)) c29 22 1 (dg (digs (refT b)))] w47 := H39.callNil H49
  refine ⟨_, rfl, [3, 5, 55], [(3, pt p3 0), (5, pt p19 0), (55, .int .u32 (((encV (decR b)) : Nat) : Int))], by kernel_rfl, ?_⟩
  refine GL.call (j := 3) (Decode_is (encV (decR b)) (decR b) 0 (encV_lt (decR_lt b)) ((decR_enc (decR_lt b) (back_dec hE).2).trans (back_dec hE).1) (decE_enc (decR_lt b) (back_dec hE).2) w47) (by kernel_rfl) rfl (fun e_ w50 hR => ?_)
  obtain ⟨rfl, H52⟩ := hR
  have H51 : Hp w [] [.blk p3 (wl t) 24, .blk p19 (wl (decR b)) 24, .row A28 (ndg (refT b)) c29 22 1 (dg (digs (refT b)))] w50 := H48.callNil H52
  refine ⟨_, rfl, [3, 5, 56], [(3, pt p3 0), (5, pt p19 0), (56, .tuple #[wv (decR b), .int .i64 0])], by kernel_rfl, ?_⟩
  refine GL.run (j := 6) 3 [3, 5, 57, 58] [(3, pt p3 0), (5, pt p19 0), (57, wv (decR b)), (58, .int .i64 0)] (by kernel_rfl) rfl ?_
  obtain ⟨p53, w54, r55, H56⟩ := H51.alloc (P := Try.prog) 24 z4 (by kernel_rfl)
  have H56 : Hp w [] [.blk p3 (wl t) 24, .blk p19 (wl (decR b)) 24, .row A28 (ndg (refT b)) c29 22 1 (dg (digs (refT b))), .blk p53 z4 24] w54 := H56
  refine GL.sem (j := 7) (r55) [3, 5, 9, 57, 58] [(3, pt p3 0), (5, pt p19 0), (9, pt p53 0), (57, wv (decR b)), (58, .int .i64 0)] (by kernel_rfl) (by kernel_rfl) rfl ?_
  obtain ⟨w57, r58, H59⟩ := H56.stA (P := Try.prog) (o := 0) (vs := (wl (decR b))) (ty := 24) (m := 4) 3 rfl (by kernel_rfl) rfl (by first | decide | simp) (wl_one _)
  have H59 : Hp w [] [.blk p3 (wl t) 24, .blk p19 (wl (decR b)) 24, .row A28 (ndg (refT b)) c29 22 1 (dg (digs (refT b))), .blk p53 (wl (decR b)) 24] w57 := H59
  refine GL.semU (j := 8) r58 [3, 5, 9, 58] [(3, pt p3 0), (5, pt p19 0), (9, pt p53 0), (58, .int .i64 0)] (by kernel_rfl) rfl rfl rfl ?_
  refine GL.run (j := 9) 1 [3, 5, 9, 10] [(3, pt p3 0), (5, pt p19 0), (9, pt p53 0), (10, .int .i64 0)] (by kernel_rfl) rfl ?_
  refine GL.k rfl hK46 (fun _ _ h => h) ?_
  refine G.seqK fun K60 hK61 => ?_
  refine G.region ?_
  refine GL.run (j := 3) 3 [3, 5, 9, 61] [(3, pt p3 0), (5, pt p19 0), (9, pt p53 0), (61, .bool false)] (by kernel_rfl) rfl ?_
  refine GL.sem (j := 4) (H59.ldA (o := 0) (ty := 24) (m := 4) (sub := (wl (decR b))) 3 rfl (by kernel_rfl) rfl rfl) [3, 5, 61, 62] [(3, pt p3 0), (5, pt p19 0), (61, .bool false), (62, wv (decR b))] (by kernel_rfl) (by kernel_rfl) rfl ?_
  refine GL.sem (j := 5) (H59.ldA (o := 0) (ty := 24) (m := 4) (sub := (wl (decR b))) 1 rfl (by kernel_rfl) rfl rfl) [3, 61, 62, 63] [(3, pt p3 0), (61, .bool false), (62, wv (decR b)), (63, wv (decR b))] (by kernel_rfl) (by kernel_rfl) rfl ?_
  refine GL.sem (j := 6) (run_arr_neq (P := Try.prog) (t := 24) (n := 4) (k := .u64) (x := (.tmp 62)) (y := (.tmp 63)) (by kernel_rfl) [(wd (decR b) 0 : Int), (wd (decR b) 1 : Int), (wd (decR b) 2 : Int), (wd (decR b) 3 : Int)] [(wd (decR b) 0 : Int), (wd (decR b) 1 : Int), (wd (decR b) 2 : Int), (wd (decR b) 3 : Int)] rfl rfl _) [3, 61, 64] [(3, pt p3 0), (61, .bool false), (64, .bool (!(decide (([(wd (decR b) 0 : Int), (wd (decR b) 1 : Int), (wd (decR b) 2 : Int), (wd (decR b) 3 : Int)] : List Int) = [(wd (decR b) 0 : Int), (wd (decR b) 1 : Int), (wd (decR b) 2 : Int), (wd (decR b) 3 : Int)]))))] (by kernel_rfl) (by kernel_rfl) rfl ?_
  refine GL.run (j := 7) 1 [3, 65] [(3, pt p3 0), (65, .bool (!(decide (([(wd (decR b) 0 : Int), (wd (decR b) 1 : Int), (wd (decR b) 2 : Int), (wd (decR b) 3 : Int)] : List Int) = [(wd (decR b) 0 : Int), (wd (decR b) 1 : Int), (wd (decR b) 2 : Int), (wd (decR b) 3 : Int)]))))] (by kernel_rfl) rfl ?_
  refine GL.k rfl hK61 (fun _ _ h => h) ?_
  have hb62 : (!(decide (([(wd (decR b) 0 : Int), (wd (decR b) 1 : Int), (wd (decR b) 2 : Int), (wd (decR b) 3 : Int)] : List Int) = [(wd (decR b) 0 : Int), (wd (decR b) 1 : Int), (wd (decR b) 2 : Int), (wd (decR b) 3 : Int)]))) = false := by rw [show (decide (([(wd (decR b) 0 : Int), (wd (decR b) 1 : Int), (wd (decR b) 2 : Int), (wd (decR b) 3 : Int)] : List Int) = [(wd (decR b) 0 : Int), (wd (decR b) 1 : Int), (wd (decR b) 2 : Int), (wd (decR b) 3 : Int)])) = true from decide_eq_true rfl]; rfl
  rw [hb62]
  refine G.no rfl ?_
  refine G.skipK hK42 (fun _ _ h => h) ?_
  refine G.seqK fun K63 hK64 => ?_
  refine G.region ?_
  refine GL.sem (j := 1) (H59.ldA (o := 0) (ty := 24) (m := 4) (sub := (wl t)) 0 rfl (by kernel_rfl) rfl rfl) [3, 66] [(3, pt p3 0), (66, wv t)] (by kernel_rfl) (by kernel_rfl) rfl ?_
  refine GL.call (j := 2) (Encode_calls t ht w57) (by kernel_rfl) rfl (fun e_ w65 hR => ?_)
  obtain ⟨rfl, H67⟩ := hR
  have H66 : Hp w [] [.blk p3 (wl t) 24, .blk p19 (wl (decR b)) 24, .row A28 (ndg (refT b)) c29 22 1 (dg (digs (refT b))), .blk p53 (wl (decR b)) 24] w65 := H59.callNil H67
  refine ⟨_, rfl, [3, 67], [(3, pt p3 0), (67, .int .u32 (((encV t) : Nat) : Int))], by kernel_rfl, ?_⟩
  refine GL.run (j := 3) 1 [3, 11] [(3, pt p3 0), (11, .int .u32 (((encV t) : Nat) : Int))] (by kernel_rfl) rfl ?_
  refine GL.k rfl hK64 (fun _ _ h => h) ?_
  refine G.seqK fun K68 hK69 => ?_
  refine G.seqK fun K70 hK71 => ?_
  refine G.region ?_
  refine GL.run (j := 1) 1 [3, 11, 68] [(3, pt p3 0), (11, .int .u32 (((encV t) : Nat) : Int)), (68, .int .u32 (((encV t) : Nat) : Int))] (by kernel_rfl) rfl ?_
  refine GL.sem (j := 2) (H66.ldA (o := 0) (ty := 24) (m := 4) (sub := (wl t)) 0 rfl (by kernel_rfl) rfl rfl) [3, 11, 68, 69] [(3, pt p3 0), (11, .int .u32 (((encV t) : Nat) : Int)), (68, .int .u32 (((encV t) : Nat) : Int)), (69, wv t)] (by kernel_rfl) (by kernel_rfl) rfl ?_
  have hN77 : ndg t ≤ 16 := ndg_K4 ht
  refine GL.call (j := 3) (Of_calls_n t ht w65) (by kernel_rfl) rfl (fun e_ w76 hR => ?_)
  obtain ⟨A72, c73, rfl, H75⟩ := hR
  have H74 : Hp w [] [.blk p3 (wl t) 24, .blk p19 (wl (decR b)) 24, .row A28 (ndg (refT b)) c29 22 1 (dg (digs (refT b))), .blk p53 (wl (decR b)) 24, .row A72 (ndg t) c73 22 1 (dg (digs t))] w76 := H66.callNew H75
  refine ⟨_, rfl, [3, 11, 68, 70], [(3, pt p3 0), (11, .int .u32 (((encV t) : Nat) : Int)), (68, .int .u32 (((encV t) : Nat) : Int)), (70, .slice A72 (ndg t) c73)], by kernel_rfl, ?_⟩
  refine GL.call (j := 4) (Encode6_calls t ht A72 c73 w76 (H74.rdRow 4 rfl)) (by kernel_rfl) rfl (fun e_ w78 hR => ?_)
  obtain ⟨rfl, H80⟩ := hR
  have H79 : Hp w [] [.blk p3 (wl t) 24, .blk p19 (wl (decR b)) 24, .row A28 (ndg (refT b)) c29 22 1 (dg (digs (refT b))), .blk p53 (wl (decR b)) 24, .row A72 (ndg t) c73 22 1 (dg (digs t))] w78 := H74.callNil H80
  refine ⟨_, rfl, [3, 11, 68, 71], [(3, pt p3 0), (11, .int .u32 (((encV t) : Nat) : Int)), (68, .int .u32 (((encV t) : Nat) : Int)), (71, .int .u32 (((encV t) : Nat) : Int))], by kernel_rfl, ?_⟩
  refine GL.run (j := 5) 1 [3, 11, 72] [(3, pt p3 0), (11, .int .u32 (((encV t) : Nat) : Int)), (72, .bool ((((encV t) : Nat) : Int) != (((encV t) : Nat) : Int)))] (by kernel_rfl) rfl ?_
  refine GL.k rfl hK71 (fun _ _ h => h) ?_
  cases hb81 : ((((encV t) : Nat) : Int) != (((encV t) : Nat) : Int))
  · skip
    have hb81f : (((encV t) : Nat) : Int) = (((encV t) : Nat) : Int) := bne_eq_false_iff_eq.1 hb81
    refine G.no rfl ?_
    refine G.skipK hK69 (fun _ _ h => h) ?_
    refine G.seqK fun K82 hK83 => ?_
    refine G.region ?_
    refine GL.run (j := 1) 1 [3, 11, 74] [(3, pt p3 0), (11, .int .u32 (((encV t) : Nat) : Int)), (74, .int .u32 (((encV t) : Nat) : Int))] (by kernel_rfl) rfl ?_
    refine GL.call (j := 2) (Decode_is (encV t) (backV t) 0 (encV_lt ht) (decR_enc ht ht0) (decE_enc ht ht0) w78) (by kernel_rfl) rfl (fun e_ w84 hR => ?_)
    obtain ⟨rfl, H86⟩ := hR
    have H85 : Hp w [] [.blk p3 (wl t) 24, .blk p19 (wl (decR b)) 24, .row A28 (ndg (refT b)) c29 22 1 (dg (digs (refT b))), .blk p53 (wl (decR b)) 24, .row A72 (ndg t) c73 22 1 (dg (digs t))] w84 := H79.callNil H86
    refine ⟨_, rfl, [3, 11, 75], [(3, pt p3 0), (11, .int .u32 (((encV t) : Nat) : Int)), (75, .tuple #[wv (backV t), .int .i64 0])], by kernel_rfl, ?_⟩
    refine GL.run (j := 5) 3 [3, 11, 76, 77] [(3, pt p3 0), (11, .int .u32 (((encV t) : Nat) : Int)), (76, wv (backV t)), (77, .int .i64 0)] (by kernel_rfl) rfl ?_
    obtain ⟨p87, w88, r89, H90⟩ := H85.alloc (P := Try.prog) 24 z4 (by kernel_rfl)
    have H90 : Hp w [] [.blk p3 (wl t) 24, .blk p19 (wl (decR b)) 24, .row A28 (ndg (refT b)) c29 22 1 (dg (digs (refT b))), .blk p53 (wl (decR b)) 24, .row A72 (ndg t) c73 22 1 (dg (digs t)), .blk p87 z4 24] w88 := H90
    refine GL.sem (j := 6) (r89) [3, 11, 12, 76, 77] [(3, pt p3 0), (11, .int .u32 (((encV t) : Nat) : Int)), (12, pt p87 0), (76, wv (backV t)), (77, .int .i64 0)] (by kernel_rfl) (by kernel_rfl) rfl ?_
    obtain ⟨w91, r92, H93⟩ := H90.stA (P := Try.prog) (o := 0) (vs := (wl (backV t))) (ty := 24) (m := 4) 5 rfl (by kernel_rfl) rfl (by first | decide | simp) (wl_one _)
    have H93 : Hp w [] [.blk p3 (wl t) 24, .blk p19 (wl (decR b)) 24, .row A28 (ndg (refT b)) c29 22 1 (dg (digs (refT b))), .blk p53 (wl (decR b)) 24, .row A72 (ndg t) c73 22 1 (dg (digs t)), .blk p87 (wl (backV t)) 24] w91 := H93
    refine GL.semU (j := 7) r92 [3, 11, 12, 77] [(3, pt p3 0), (11, .int .u32 (((encV t) : Nat) : Int)), (12, pt p87 0), (77, .int .i64 0)] (by kernel_rfl) rfl rfl rfl ?_
    refine GL.run (j := 8) 1 [3, 11, 12, 13] [(3, pt p3 0), (11, .int .u32 (((encV t) : Nat) : Int)), (12, pt p87 0), (13, .int .i64 0)] (by kernel_rfl) rfl ?_
    refine GL.k rfl hK83 (fun _ _ h => h) ?_
    refine G.seqK fun K94 hK95 => ?_
    refine G.region ?_
    refine GL.sem (j := 1) (H93.ldA (o := 0) (ty := 24) (m := 4) (sub := (wl t)) 0 rfl (by kernel_rfl) rfl rfl) [3, 11, 12, 13, 78] [(3, pt p3 0), (11, .int .u32 (((encV t) : Nat) : Int)), (12, pt p87 0), (13, .int .i64 0), (78, wv t)] (by kernel_rfl) (by kernel_rfl) rfl ?_
    refine GL.run (j := 2) 1 [3, 11, 12, 13, 78, 79] [(3, pt p3 0), (11, .int .u32 (((encV t) : Nat) : Int)), (12, pt p87 0), (13, .int .i64 0), (78, wv t), (79, .agg #[.int .u64 0, .int .u64 0, .int .u64 0, .int .u64 0])] (by kernel_rfl) rfl ?_
    refine GL.sem (j := 3) (run_arr_eql (P := Try.prog) (t := 24) (n := 4) (k := .u64) (x := (.tmp 78)) (y := (.tmp 79)) (by kernel_rfl) [(wd t 0 : Int), (wd t 1 : Int), (wd t 2 : Int), (wd t 3 : Int)] [0, 0, 0, 0] rfl rfl _) [3, 11, 12, 13, 80] [(3, pt p3 0), (11, .int .u32 (((encV t) : Nat) : Int)), (12, pt p87 0), (13, .int .i64 0), (80, .bool (decide (([(wd t 0 : Int), (wd t 1 : Int), (wd t 2 : Int), (wd t 3 : Int)] : List Int) = [0, 0, 0, 0])))] (by kernel_rfl) (by kernel_rfl) rfl ?_
    refine GL.run (j := 4) 1 [3, 11, 12, 13, 81] [(3, pt p3 0), (11, .int .u32 (((encV t) : Nat) : Int)), (12, pt p87 0), (13, .int .i64 0), (81, .bool (decide (([(wd t 0 : Int), (wd t 1 : Int), (wd t 2 : Int), (wd t 3 : Int)] : List Int) = [0, 0, 0, 0])))] (by kernel_rfl) rfl ?_
    have hb96 : (decide (([(wd t 0 : Int), (wd t 1 : Int), (wd t 2 : Int), (wd t 3 : Int)] : List Int) = [0, 0, 0, 0])) = false := decide_eq_false (fun h => ht0 ((wv_eq (y := 0) ht (by decide)).1 h))
    rw [hb96]
    refine GL.run (j := 7) 3 [3, 11, 12, 81, 84] [(3, pt p3 0), (11, .int .u32 (((encV t) : Nat) : Int)), (12, pt p87 0), (81, .bool false), (84, .bool true)] (by kernel_rfl) rfl ?_
    refine GL.sem (j := 8) (H93.ldA (o := 0) (ty := 24) (m := 4) (sub := (wl (backV t))) 5 rfl (by kernel_rfl) rfl rfl) [3, 11, 12, 81, 84, 85] [(3, pt p3 0), (11, .int .u32 (((encV t) : Nat) : Int)), (12, pt p87 0), (81, .bool false), (84, .bool true), (85, wv (backV t))] (by kernel_rfl) (by kernel_rfl) rfl ?_
    refine GL.sem (j := 9) (H93.ldA (o := 0) (ty := 24) (m := 4) (sub := (wl t)) 0 rfl (by kernel_rfl) rfl rfl) [11, 12, 81, 84, 85, 86] [(11, .int .u32 (((encV t) : Nat) : Int)), (12, pt p87 0), (81, .bool false), (84, .bool true), (85, wv (backV t)), (86, wv t)] (by kernel_rfl) (by kernel_rfl) rfl ?_
    refine GL.call (j := 10) (Cmp_calls (backV t) t (Nat.lt_of_le_of_lt (backV_le t) ht) ht w91) (by kernel_rfl) rfl (fun e_ w97 hR => ?_)
    obtain ⟨he_, H99⟩ := hR
    subst he_
    have H98 : Hp w [] [.blk p3 (wl t) 24, .blk p19 (wl (decR b)) 24, .row A28 (ndg (refT b)) c29 22 1 (dg (digs (refT b))), .blk p53 (wl (decR b)) 24, .row A72 (ndg t) c73 22 1 (dg (digs t)), .blk p87 (wl (backV t)) 24] w97 := H93.callNil H99
    refine ⟨_, rfl, [11, 12, 81, 84, 87], [(11, .int .u32 (((encV t) : Nat) : Int)), (12, pt p87 0), (81, .bool false), (84, .bool true), (87, .int .i64 (cmpN (backV t) t))], by kernel_rfl, ?_⟩
    refine GL.run (j := 13) 3 [11, 12, 81, 90] [(11, .int .u32 (((encV t) : Nat) : Int)), (12, pt p87 0), (81, .bool false), (90, .bool (decide ((cmpN (backV t) t) ≤ 0)))] (by kernel_rfl) rfl ?_
    have hb100 : (decide ((cmpN (backV t) t) ≤ 0)) = true := decide_eq_true (cmp_le0.2 (backV_le t))
    rw [hb100]
    refine GL.sem (j := 14) (H98.ldA (o := 0) (ty := 24) (m := 4) (sub := (wl (backV t))) 5 rfl (by kernel_rfl) rfl rfl) [11, 81, 90, 91] [(11, .int .u32 (((encV t) : Nat) : Int)), (81, .bool false), (90, .bool true), (91, wv (backV t))] (by kernel_rfl) (by kernel_rfl) rfl ?_
    refine GL.call (j := 15) (Encode_calls (backV t) (Nat.lt_of_le_of_lt (backV_le t) ht) w97) (by kernel_rfl) rfl (fun e_ w101 hR => ?_)
    obtain ⟨rfl, H103⟩ := hR
    have H102 : Hp w [] [.blk p3 (wl t) 24, .blk p19 (wl (decR b)) 24, .row A28 (ndg (refT b)) c29 22 1 (dg (digs (refT b))), .blk p53 (wl (decR b)) 24, .row A72 (ndg t) c73 22 1 (dg (digs t)), .blk p87 (wl (backV t)) 24] w101 := H98.callNil H103
    refine ⟨_, rfl, [11, 81, 90, 92], [(11, .int .u32 (((encV t) : Nat) : Int)), (81, .bool false), (90, .bool true), (92, .int .u32 (((encV (backV t)) : Nat) : Int))], by kernel_rfl, ?_⟩
    refine GL.run (j := 20) 5 [4] [(4, .bool ((((encV (backV t)) : Nat) : Int) == (((encV t) : Nat) : Int)))] (by kernel_rfl) rfl ?_
    refine GL.k rfl hK95 (fun _ _ h => h) ?_
    refine G.ret ?_
    intro F_ hF_ hM_
    refine hRet _ _ (bodyPost_1 rfl (RV.tmp rfl) ?_ F_ hF_ hM_)
    have hb104 : ((((encV (backV t)) : Nat) : Int) == (((encV t) : Nat) : Int)) = true := by rw [encV_back]; exact beq_self_eq_true _
    rw [hb104]
    exact ⟨rfl, H102.sub (List.nil_sublist _)⟩
  · skip
    have hb81f : (((encV t) : Nat) : Int) ≠ (((encV t) : Nat) : Int) := bne_iff_ne.1 hb81
    refine G.yes rfl ?_
    refine G.seqK fun K105 hK106 => ?_
    refine G.region ?_
    refine GL.run (j := 1) 1 [4] [(4, .bool false)] (by kernel_rfl) rfl ?_
    refine GL.k rfl hK106 (fun _ _ h => h) ?_
    refine G.ret ?_
    intro F_ hF_ hM_
    refine hRet _ _ (bodyPost_1 rfl (RV.tmp rfl) ?_ F_ hF_ hM_)
    exfalso
    omega
theorem TargetDecodes_01 (b t : Nat) (hb : b < 4294967296) (ht : t < K4) (hE : decE b = 6) (ht0 : t = 0) (w : World) : Calls Try.prog 5 #[.int .u32 (b : Int), wv t] w fun e w' => e = .returned (.bool true) ∧ Hp w [] [] w' := by
  refine calls_G (args := [.int .u32 (b : Int), wv t]) Try.func5 rfl Try.ntmps5 rfl ?_
  intro Q0 hRet hNor hPan
  have H := Hp.start w
  have H : Hp w [] [] w := H
  refine G.seqK fun K1 hK2 => ?_
  refine G.region ?_
  obtain ⟨p3, w4, r5, H6⟩ := H.box (P := Try.prog) 24 (wl t) (wv t) rfl
  have H6 : Hp w [] [.blk p3 (wl t) 24] w4 := H6
  refine GL.sem (j := 1) (r5) [0, 3] [(0, .int .u32 (b : Int)), (3, pt p3 0)] (by kernel_rfl) (by kernel_rfl) rfl ?_
  refine GL.run (j := 2) 1 [0, 3] [(0, .int .u32 (b : Int)), (3, pt p3 0)] (by kernel_rfl) rfl ?_
  refine GL.k rfl hK2 (fun _ _ h => h) ?_
  refine G.seqK fun K7 hK8 => ?_
  refine G.seqK fun K9 hK10 => ?_
  refine G.region ?_
  refine GL.call (j := 1) (lives_calls w4) (by kernel_rfl) rfl (fun e_ w11 hR => ?_)
  obtain ⟨rfl, H13⟩ := hR
  have H12 : Hp w [] [.blk p3 (wl t) 24] w11 := H6.callNil H13
  refine ⟨_, rfl, [0, 3, 14], [(0, .int .u32 (b : Int)), (3, pt p3 0), (14, .bool true)], by kernel_rfl, ?_⟩
  refine GL.run (j := 2) 1 [0, 3, 15] [(0, .int .u32 (b : Int)), (3, pt p3 0), (15, .bool false)] (by kernel_rfl) rfl ?_
  refine GL.k rfl hK10 (fun _ _ h => h) ?_
  refine G.no rfl ?_
  refine G.skipK hK8 (fun _ _ h => h) ?_
  refine G.seqK fun K14 hK15 => ?_
  refine G.region ?_
  refine GL.run (j := 1) 1 [0, 3, 17] [(0, .int .u32 (b : Int)), (3, pt p3 0), (17, .int .u32 (b : Int))] (by kernel_rfl) rfl ?_
  refine GL.call (j := 2) (Decode_is b 0 6 hb (dec_no hE) hE w11) (by kernel_rfl) rfl (fun e_ w16 hR => ?_)
  obtain ⟨rfl, H18⟩ := hR
  have H17 : Hp w [] [.blk p3 (wl t) 24] w16 := H12.callNil H18
  refine ⟨_, rfl, [0, 3, 18], [(0, .int .u32 (b : Int)), (3, pt p3 0), (18, .tuple #[wv 0, .int .i64 6])], by kernel_rfl, ?_⟩
  refine GL.run (j := 5) 3 [0, 3, 19, 20] [(0, .int .u32 (b : Int)), (3, pt p3 0), (19, wv 0), (20, .int .i64 6)] (by kernel_rfl) rfl ?_
  obtain ⟨p19, w20, r21, H22⟩ := H17.alloc (P := Try.prog) 24 z4 (by kernel_rfl)
  have H22 : Hp w [] [.blk p3 (wl t) 24, .blk p19 z4 24] w20 := H22
  refine GL.sem (j := 6) (r21) [0, 3, 5, 19, 20] [(0, .int .u32 (b : Int)), (3, pt p3 0), (5, pt p19 0), (19, wv 0), (20, .int .i64 6)] (by kernel_rfl) (by kernel_rfl) rfl ?_
  obtain ⟨w23, r24, H25⟩ := H22.stA (P := Try.prog) (o := 0) (vs := (wl 0)) (ty := 24) (m := 4) 1 rfl (by kernel_rfl) rfl (by first | decide | simp) (wl_one _)
  have H25 : Hp w [] [.blk p3 (wl t) 24, .blk p19 (wl 0) 24] w23 := H25
  refine GL.semU (j := 7) r24 [0, 3, 5, 20] [(0, .int .u32 (b : Int)), (3, pt p3 0), (5, pt p19 0), (20, .int .i64 6)] (by kernel_rfl) rfl rfl rfl ?_
  refine GL.run (j := 8) 1 [0, 3, 5, 6] [(0, .int .u32 (b : Int)), (3, pt p3 0), (5, pt p19 0), (6, .int .i64 6)] (by kernel_rfl) rfl ?_
  refine GL.k rfl hK15 (fun _ _ h => h) ?_
  refine G.seqK fun K26 hK27 => ?_
  refine G.region ?_
  refine GL.run (j := 1) 1 [3, 5, 6, 22] [(3, pt p3 0), (5, pt p19 0), (6, .int .i64 6), (22, .int .u32 (b : Int))] (by kernel_rfl) rfl ?_
  refine GL.call (j := 2) (Decode6_calls b hb w23) (by kernel_rfl) rfl (fun e_ w32 hR => ?_)
  obtain ⟨A28, c29, rfl, H31⟩ := hR
  rw [(refOK_iff b).1, hE]
  have H30 : Hp w [] [.blk p3 (wl t) 24, .blk p19 (wl 0) 24, .row A28 (ndg (refT b)) c29 22 1 (dg (digs (refT b)))] w32 := H25.callNew H31
  rw [show decide ((6 : Nat) = 0) = false from rfl]
  refine ⟨_, rfl, [3, 5, 6, 23], [(3, pt p3 0), (5, pt p19 0), (6, .int .i64 6), (23, .tuple #[.slice A28 (ndg (refT b)) c29, .bool false])], by kernel_rfl, ?_⟩
  refine GL.run (j := 7) 5 [3, 5, 6, 7, 8] [(3, pt p3 0), (5, pt p19 0), (6, .int .i64 6), (7, .slice A28 (ndg (refT b)) c29), (8, .bool false)] (by kernel_rfl) rfl ?_
  refine GL.k rfl hK27 (fun _ _ h => h) ?_
  refine G.seqK fun K33 hK34 => ?_
  refine G.seqK fun K35 hK36 => ?_
  refine G.region ?_
  refine GL.run (j := 11) 11 [3, 5, 7, 8, 30, 33, 36] [(3, pt p3 0), (5, pt p19 0), (7, .slice A28 (ndg (refT b)) c29), (8, .bool false), (30, .bool false), (33, .bool true), (36, .bool false)] (by kernel_rfl) rfl ?_
  refine GL.sem (j := 12) (H30.ldA (o := 0) (ty := 24) (m := 4) (sub := (wl 0)) 1 rfl (by kernel_rfl) rfl rfl) [3, 5, 7, 8, 30, 33, 36, 37] [(3, pt p3 0), (5, pt p19 0), (7, .slice A28 (ndg (refT b)) c29), (8, .bool false), (30, .bool false), (33, .bool true), (36, .bool false), (37, wv 0)] (by kernel_rfl) (by kernel_rfl) rfl ?_
  refine GL.run (j := 13) 1 [3, 5, 7, 8, 30, 33, 36, 37, 38] [(3, pt p3 0), (5, pt p19 0), (7, .slice A28 (ndg (refT b)) c29), (8, .bool false), (30, .bool false), (33, .bool true), (36, .bool false), (37, wv 0), (38, .agg #[.int .u64 0, .int .u64 0, .int .u64 0, .int .u64 0])] (by kernel_rfl) rfl ?_
  refine GL.sem (j := 14) (run_arr_neq (P := Try.prog) (t := 24) (n := 4) (k := .u64) (x := (.tmp 37)) (y := (.tmp 38)) (by kernel_rfl) [(wd 0 0 : Int), (wd 0 1 : Int), (wd 0 2 : Int), (wd 0 3 : Int)] [0, 0, 0, 0] rfl rfl _) [3, 5, 7, 8, 30, 33, 36, 39] [(3, pt p3 0), (5, pt p19 0), (7, .slice A28 (ndg (refT b)) c29), (8, .bool false), (30, .bool false), (33, .bool true), (36, .bool false), (39, .bool (!(decide (([(wd 0 0 : Int), (wd 0 1 : Int), (wd 0 2 : Int), (wd 0 3 : Int)] : List Int) = [0, 0, 0, 0]))))] (by kernel_rfl) (by kernel_rfl) rfl ?_
  refine GL.run (j := 18) 4 [3, 5, 7, 8, 43] [(3, pt p3 0), (5, pt p19 0), (7, .slice A28 (ndg (refT b)) c29), (8, .bool false), (43, .bool (!(decide (([(wd 0 0 : Int), (wd 0 1 : Int), (wd 0 2 : Int), (wd 0 3 : Int)] : List Int) = [0, 0, 0, 0]))))] (by kernel_rfl) rfl ?_
  have hb37 : (!(decide (([(wd 0 0 : Int), (wd 0 1 : Int), (wd 0 2 : Int), (wd 0 3 : Int)] : List Int) = [0, 0, 0, 0]))) = false := by rw [show (decide (([(wd 0 0 : Int), (wd 0 1 : Int), (wd 0 2 : Int), (wd 0 3 : Int)] : List Int) = [0, 0, 0, 0])) = true from by decide +kernel]; rfl
  rw [hb37]
  refine GL.run (j := 26) 8 [3, 5, 8, 51] [(3, pt p3 0), (5, pt p19 0), (8, .bool false), (51, .bool false)] (by kernel_rfl) rfl ?_
  refine GL.k rfl hK36 (fun _ _ h => h) ?_
  refine G.no rfl ?_
  refine G.skipK hK34 (fun _ _ h => h) ?_
  refine G.seqK fun K38 hK39 => ?_
  refine G.seqK fun K40 hK41 => ?_
  refine G.region ?_
  refine GL.run (j := 1) 1 [3, 5, 52] [(3, pt p3 0), (5, pt p19 0), (52, .bool false)] (by kernel_rfl) rfl ?_
  refine GL.k rfl hK41 (fun _ _ h => h) ?_
  refine G.no rfl ?_
  refine G.skipK hK39 (fun _ _ h => h) ?_
  refine G.seqK fun K42 hK43 => ?_
  refine G.region ?_
  refine GL.sem (j := 1) (H30.ldA (o := 0) (ty := 24) (m := 4) (sub := (wl t)) 0 rfl (by kernel_rfl) rfl rfl) [3, 66] [(3, pt p3 0), (66, wv t)] (by kernel_rfl) (by kernel_rfl) rfl ?_
  refine GL.call (j := 2) (Encode_calls t ht w32) (by kernel_rfl) rfl (fun e_ w44 hR => ?_)
  obtain ⟨rfl, H46⟩ := hR
  have H45 : Hp w [] [.blk p3 (wl t) 24, .blk p19 (wl 0) 24, .row A28 (ndg (refT b)) c29 22 1 (dg (digs (refT b)))] w44 := H30.callNil H46
  refine ⟨_, rfl, [3, 67], [(3, pt p3 0), (67, .int .u32 (((encV t) : Nat) : Int))], by kernel_rfl, ?_⟩
  refine GL.run (j := 3) 1 [3, 11] [(3, pt p3 0), (11, .int .u32 (((encV t) : Nat) : Int))] (by kernel_rfl) rfl ?_
  refine GL.k rfl hK43 (fun _ _ h => h) ?_
  refine G.seqK fun K47 hK48 => ?_
  refine G.seqK fun K49 hK50 => ?_
  refine G.region ?_
  refine GL.run (j := 1) 1 [3, 11, 68] [(3, pt p3 0), (11, .int .u32 (((encV t) : Nat) : Int)), (68, .int .u32 (((encV t) : Nat) : Int))] (by kernel_rfl) rfl ?_
  refine GL.sem (j := 2) (H45.ldA (o := 0) (ty := 24) (m := 4) (sub := (wl t)) 0 rfl (by kernel_rfl) rfl rfl) [3, 11, 68, 69] [(3, pt p3 0), (11, .int .u32 (((encV t) : Nat) : Int)), (68, .int .u32 (((encV t) : Nat) : Int)), (69, wv t)] (by kernel_rfl) (by kernel_rfl) rfl ?_
  have hN56 : ndg t ≤ 16 := ndg_K4 ht
  refine GL.call (j := 3) (Of_calls_n t ht w44) (by kernel_rfl) rfl (fun e_ w55 hR => ?_)
  obtain ⟨A51, c52, rfl, H54⟩ := hR
  have H53 : Hp w [] [.blk p3 (wl t) 24, .blk p19 (wl 0) 24, .row A28 (ndg (refT b)) c29 22 1 (dg (digs (refT b))), .row A51 (ndg t) c52 22 1 (dg (digs t))] w55 := H45.callNew H54
  refine ⟨_, rfl, [3, 11, 68, 70], [(3, pt p3 0), (11, .int .u32 (((encV t) : Nat) : Int)), (68, .int .u32 (((encV t) : Nat) : Int)), (70, .slice A51 (ndg t) c52)], by kernel_rfl, ?_⟩
  refine GL.call (j := 4) (Encode6_calls t ht A51 c52 w55 (H53.rdRow 3 rfl)) (by kernel_rfl) rfl (fun e_ w57 hR => ?_)
  obtain ⟨rfl, H59⟩ := hR
  have H58 : Hp w [] [.blk p3 (wl t) 24, .blk p19 (wl 0) 24, .row A28 (ndg (refT b)) c29 22 1 (dg (digs (refT b))), .row A51 (ndg t) c52 22 1 (dg (digs t))] w57 := H53.callNil H59
  refine ⟨_, rfl, [3, 11, 68, 71], [(3, pt p3 0), (11, .int .u32 (((encV t) : Nat) : Int)), (68, .int .u32 (((encV t) : Nat) : Int)), (71, .int .u32 (((encV t) : Nat) : Int))], by kernel_rfl, ?_⟩
  refine GL.run (j := 5) 1 [3, 11, 72] [(3, pt p3 0), (11, .int .u32 (((encV t) : Nat) : Int)), (72, .bool ((((encV t) : Nat) : Int) != (((encV t) : Nat) : Int)))] (by kernel_rfl) rfl ?_
  refine GL.k rfl hK50 (fun _ _ h => h) ?_
  cases hb60 : ((((encV t) : Nat) : Int) != (((encV t) : Nat) : Int))
  · skip
    have hb60f : (((encV t) : Nat) : Int) = (((encV t) : Nat) : Int) := bne_eq_false_iff_eq.1 hb60
    refine G.no rfl ?_
    refine G.skipK hK48 (fun _ _ h => h) ?_
    refine G.seqK fun K61 hK62 => ?_
    refine G.region ?_
    refine GL.run (j := 1) 1 [3, 11, 74] [(3, pt p3 0), (11, .int .u32 (((encV t) : Nat) : Int)), (74, .int .u32 (((encV t) : Nat) : Int))] (by kernel_rfl) rfl ?_
    refine GL.call (j := 2) (Decode_is (encV t) 0 6 (encV_lt ht) (by rw [ht0]; decide +kernel) (by rw [ht0]; decide +kernel) w57) (by kernel_rfl) rfl (fun e_ w63 hR => ?_)
    obtain ⟨rfl, H65⟩ := hR
    have H64 : Hp w [] [.blk p3 (wl t) 24, .blk p19 (wl 0) 24, .row A28 (ndg (refT b)) c29 22 1 (dg (digs (refT b))), .row A51 (ndg t) c52 22 1 (dg (digs t))] w63 := H58.callNil H65
    refine ⟨_, rfl, [3, 11, 75], [(3, pt p3 0), (11, .int .u32 (((encV t) : Nat) : Int)), (75, .tuple #[wv 0, .int .i64 6])], by kernel_rfl, ?_⟩
    refine GL.run (j := 5) 3 [3, 11, 76, 77] [(3, pt p3 0), (11, .int .u32 (((encV t) : Nat) : Int)), (76, wv 0), (77, .int .i64 6)] (by kernel_rfl) rfl ?_
    obtain ⟨p66, w67, r68, H69⟩ := H64.alloc (P := Try.prog) 24 z4 (by kernel_rfl)
    have H69 : Hp w [] [.blk p3 (wl t) 24, .blk p19 (wl 0) 24, .row A28 (ndg (refT b)) c29 22 1 (dg (digs (refT b))), .row A51 (ndg t) c52 22 1 (dg (digs t)), .blk p66 z4 24] w67 := H69
    refine GL.sem (j := 6) (r68) [3, 11, 12, 76, 77] [(3, pt p3 0), (11, .int .u32 (((encV t) : Nat) : Int)), (12, pt p66 0), (76, wv 0), (77, .int .i64 6)] (by kernel_rfl) (by kernel_rfl) rfl ?_
    obtain ⟨w70, r71, H72⟩ := H69.stA (P := Try.prog) (o := 0) (vs := (wl 0)) (ty := 24) (m := 4) 4 rfl (by kernel_rfl) rfl (by first | decide | simp) (wl_one _)
    have H72 : Hp w [] [.blk p3 (wl t) 24, .blk p19 (wl 0) 24, .row A28 (ndg (refT b)) c29 22 1 (dg (digs (refT b))), .row A51 (ndg t) c52 22 1 (dg (digs t)), .blk p66 (wl 0) 24] w70 := H72
    refine GL.semU (j := 7) r71 [3, 11, 12, 77] [(3, pt p3 0), (11, .int .u32 (((encV t) : Nat) : Int)), (12, pt p66 0), (77, .int .i64 6)] (by kernel_rfl) rfl rfl rfl ?_
    refine GL.run (j := 8) 1 [3, 11, 12, 13] [(3, pt p3 0), (11, .int .u32 (((encV t) : Nat) : Int)), (12, pt p66 0), (13, .int .i64 6)] (by kernel_rfl) rfl ?_
    refine GL.k rfl hK62 (fun _ _ h => h) ?_
    refine G.seqK fun K73 hK74 => ?_
    refine G.region ?_
    refine GL.sem (j := 1) (H72.ldA (o := 0) (ty := 24) (m := 4) (sub := (wl t)) 0 rfl (by kernel_rfl) rfl rfl) [3, 11, 12, 13, 78] [(3, pt p3 0), (11, .int .u32 (((encV t) : Nat) : Int)), (12, pt p66 0), (13, .int .i64 6), (78, wv t)] (by kernel_rfl) (by kernel_rfl) rfl ?_
    refine GL.run (j := 2) 1 [3, 11, 12, 13, 78, 79] [(3, pt p3 0), (11, .int .u32 (((encV t) : Nat) : Int)), (12, pt p66 0), (13, .int .i64 6), (78, wv t), (79, .agg #[.int .u64 0, .int .u64 0, .int .u64 0, .int .u64 0])] (by kernel_rfl) rfl ?_
    refine GL.sem (j := 3) (run_arr_eql (P := Try.prog) (t := 24) (n := 4) (k := .u64) (x := (.tmp 78)) (y := (.tmp 79)) (by kernel_rfl) [(wd t 0 : Int), (wd t 1 : Int), (wd t 2 : Int), (wd t 3 : Int)] [0, 0, 0, 0] rfl rfl _) [3, 11, 12, 13, 80] [(3, pt p3 0), (11, .int .u32 (((encV t) : Nat) : Int)), (12, pt p66 0), (13, .int .i64 6), (80, .bool (decide (([(wd t 0 : Int), (wd t 1 : Int), (wd t 2 : Int), (wd t 3 : Int)] : List Int) = [0, 0, 0, 0])))] (by kernel_rfl) (by kernel_rfl) rfl ?_
    refine GL.run (j := 4) 1 [3, 11, 12, 13, 81] [(3, pt p3 0), (11, .int .u32 (((encV t) : Nat) : Int)), (12, pt p66 0), (13, .int .i64 6), (81, .bool (decide (([(wd t 0 : Int), (wd t 1 : Int), (wd t 2 : Int), (wd t 3 : Int)] : List Int) = [0, 0, 0, 0])))] (by kernel_rfl) rfl ?_
    have hb75 : (decide (([(wd t 0 : Int), (wd t 1 : Int), (wd t 2 : Int), (wd t 3 : Int)] : List Int) = [0, 0, 0, 0])) = true := decide_eq_true ((wv_eq (y := 0) ht (by decide)).2 ht0)
    rw [hb75]
    refine GL.run (j := 20) 16 [4] [(4, .bool true)] (by kernel_rfl) rfl ?_
    refine GL.k rfl hK74 (fun _ _ h => h) ?_
    refine G.ret ?_
    intro F_ hF_ hM_
    refine hRet _ _ (bodyPost_1 rfl (RV.tmp rfl) ?_ F_ hF_ hM_)
    exact ⟨rfl, H72.sub (List.nil_sublist _)⟩
  · skip
    have hb60f : (((encV t) : Nat) : Int) ≠ (((encV t) : Nat) : Int) := bne_iff_ne.1 hb60
    refine G.yes rfl ?_
    refine G.seqK fun K76 hK77 => ?_
    refine G.region ?_
    refine GL.run (j := 1) 1 [4] [(4, .bool false)] (by kernel_rfl) rfl ?_
    refine GL.k rfl hK77 (fun _ _ h => h) ?_
    refine G.ret ?_
    intro F_ hF_ hM_
    refine hRet _ _ (bodyPost_1 rfl (RV.tmp rfl) ?_ F_ hF_ hM_)
    exfalso
    omega
theorem TargetDecodes_00 (b t : Nat) (hb : b < 4294967296) (ht : t < K4) (hE : decE b = 6) (ht0 : t ≠ 0) (w : World) : Calls Try.prog 5 #[.int .u32 (b : Int), wv t] w fun e w' => e = .returned (.bool true) ∧ Hp w [] [] w' := by
  refine calls_G (args := [.int .u32 (b : Int), wv t]) Try.func5 rfl Try.ntmps5 rfl ?_
  intro Q0 hRet hNor hPan
  have H := Hp.start w
  have H : Hp w [] [] w := H
  refine G.seqK fun K1 hK2 => ?_
  refine G.region ?_
  obtain ⟨p3, w4, r5, H6⟩ := H.box (P := Try.prog) 24 (wl t) (wv t) rfl
  have H6 : Hp w [] [.blk p3 (wl t) 24] w4 := H6
  refine GL.sem (j := 1) (r5) [0, 3] [(0, .int .u32 (b : Int)), (3, pt p3 0)] (by kernel_rfl) (by kernel_rfl) rfl ?_
  refine GL.run (j := 2) 1 [0, 3] [(0, .int .u32 (b : Int)), (3, pt p3 0)] (by kernel_rfl) rfl ?_
  refine GL.k rfl hK2 (fun _ _ h => h) ?_
  refine G.seqK fun K7 hK8 => ?_
  refine G.seqK fun K9 hK10 => ?_
  refine G.region ?_
  refine GL.call (j := 1) (lives_calls w4) (by kernel_rfl) rfl (fun e_ w11 hR => ?_)
  obtain ⟨rfl, H13⟩ := hR
  have H12 : Hp w [] [.blk p3 (wl t) 24] w11 := H6.callNil H13
  refine ⟨_, rfl, [0, 3, 14], [(0, .int .u32 (b : Int)), (3, pt p3 0), (14, .bool true)], by kernel_rfl, ?_⟩
  refine GL.run (j := 2) 1 [0, 3, 15] [(0, .int .u32 (b : Int)), (3, pt p3 0), (15, .bool false)] (by kernel_rfl) rfl ?_
  refine GL.k rfl hK10 (fun _ _ h => h) ?_
  refine G.no rfl ?_
  refine G.skipK hK8 (fun _ _ h => h) ?_
  refine G.seqK fun K14 hK15 => ?_
  refine G.region ?_
  refine GL.run (j := 1) 1 [0, 3, 17] [(0, .int .u32 (b : Int)), (3, pt p3 0), (17, .int .u32 (b : Int))] (by kernel_rfl) rfl ?_
  refine GL.call (j := 2) (Decode_is b 0 6 hb (dec_no hE) hE w11) (by kernel_rfl) rfl (fun e_ w16 hR => ?_)
  obtain ⟨rfl, H18⟩ := hR
  have H17 : Hp w [] [.blk p3 (wl t) 24] w16 := H12.callNil H18
  refine ⟨_, rfl, [0, 3, 18], [(0, .int .u32 (b : Int)), (3, pt p3 0), (18, .tuple #[wv 0, .int .i64 6])], by kernel_rfl, ?_⟩
  refine GL.run (j := 5) 3 [0, 3, 19, 20] [(0, .int .u32 (b : Int)), (3, pt p3 0), (19, wv 0), (20, .int .i64 6)] (by kernel_rfl) rfl ?_
  obtain ⟨p19, w20, r21, H22⟩ := H17.alloc (P := Try.prog) 24 z4 (by kernel_rfl)
  have H22 : Hp w [] [.blk p3 (wl t) 24, .blk p19 z4 24] w20 := H22
  refine GL.sem (j := 6) (r21) [0, 3, 5, 19, 20] [(0, .int .u32 (b : Int)), (3, pt p3 0), (5, pt p19 0), (19, wv 0), (20, .int .i64 6)] (by kernel_rfl) (by kernel_rfl) rfl ?_
  obtain ⟨w23, r24, H25⟩ := H22.stA (P := Try.prog) (o := 0) (vs := (wl 0)) (ty := 24) (m := 4) 1 rfl (by kernel_rfl) rfl (by first | decide | simp) (wl_one _)
  have H25 : Hp w [] [.blk p3 (wl t) 24, .blk p19 (wl 0) 24] w23 := H25
  refine GL.semU (j := 7) r24 [0, 3, 5, 20] [(0, .int .u32 (b : Int)), (3, pt p3 0), (5, pt p19 0), (20, .int .i64 6)] (by kernel_rfl) rfl rfl rfl ?_
  refine GL.run (j := 8) 1 [0, 3, 5, 6] [(0, .int .u32 (b : Int)), (3, pt p3 0), (5, pt p19 0), (6, .int .i64 6)] (by kernel_rfl) rfl ?_
  refine GL.k rfl hK15 (fun _ _ h => h) ?_
  refine G.seqK fun K26 hK27 => ?_
  refine G.region ?_
  refine GL.run (j := 1) 1 [3, 5, 6, 22] [(3, pt p3 0), (5, pt p19 0), (6, .int .i64 6), (22, .int .u32 (b : Int))] (by kernel_rfl) rfl ?_
  refine GL.call (j := 2) (Decode6_calls b hb w23) (by kernel_rfl) rfl (fun e_ w32 hR => ?_)
  obtain ⟨A28, c29, rfl, H31⟩ := hR
  rw [(refOK_iff b).1, hE]
  have H30 : Hp w [] [.blk p3 (wl t) 24, .blk p19 (wl 0) 24, .row A28 (ndg (refT b)) c29 22 1 (dg (digs (refT b)))] w32 := H25.callNew H31
  rw [show decide ((6 : Nat) = 0) = false from rfl]
  refine ⟨_, rfl, [3, 5, 6, 23], [(3, pt p3 0), (5, pt p19 0), (6, .int .i64 6), (23, .tuple #[.slice A28 (ndg (refT b)) c29, .bool false])], by kernel_rfl, ?_⟩
  refine GL.run (j := 7) 5 [3, 5, 6, 7, 8] [(3, pt p3 0), (5, pt p19 0), (6, .int .i64 6), (7, .slice A28 (ndg (refT b)) c29), (8, .bool false)] (by kernel_rfl) rfl ?_
  refine GL.k rfl hK27 (fun _ _ h => h) ?_
  refine G.seqK fun K33 hK34 => ?_
  refine G.seqK fun K35 hK36 => ?_
  refine G.region ?_
  refine GL.run (j := 11) 11 [3, 5, 7, 8, 30, 33, 36] [(3, pt p3 0), (5, pt p19 0), (7, .slice A28 (ndg (refT b)) c29), (8, .bool false), (30, .bool false), (33, .bool true), (36, .bool false)] (by kernel_rfl) rfl ?_
  refine GL.sem (j := 12) (H30.ldA (o := 0) (ty := 24) (m := 4) (sub := (wl 0)) 1 rfl (by kernel_rfl) rfl rfl) [3, 5, 7, 8, 30, 33, 36, 37] [(3, pt p3 0), (5, pt p19 0), (7, .slice A28 (ndg (refT b)) c29), (8, .bool false), (30, .bool false), (33, .bool true), (36, .bool false), (37, wv 0)] (by kernel_rfl) (by kernel_rfl) rfl ?_
  refine GL.run (j := 13) 1 [3, 5, 7, 8, 30, 33, 36, 37, 38] [(3, pt p3 0), (5, pt p19 0), (7, .slice A28 (ndg (refT b)) c29), (8, .bool false), (30, .bool false), (33, .bool true), (36, .bool false), (37, wv 0), (38, .agg #[.int .u64 0, .int .u64 0, .int .u64 0, .int .u64 0])] (by kernel_rfl) rfl ?_
  refine GL.sem (j := 14) (run_arr_neq (P := Try.prog) (t := 24) (n := 4) (k := .u64) (x := (.tmp 37)) (y := (.tmp 38)) (by kernel_rfl) [(wd 0 0 : Int), (wd 0 1 : Int), (wd 0 2 : Int), (wd 0 3 : Int)] [0, 0, 0, 0] rfl rfl _) [3, 5, 7, 8, 30, 33, 36, 39] [(3, pt p3 0), (5, pt p19 0), (7, .slice A28 (ndg (refT b)) c29), (8, .bool false), (30, .bool false), (33, .bool true), (36, .bool false), (39, .bool (!(decide (([(wd 0 0 : Int), (wd 0 1 : Int), (wd 0 2 : Int), (wd 0 3 : Int)] : List Int) = [0, 0, 0, 0]))))] (by kernel_rfl) (by kernel_rfl) rfl ?_
  refine GL.run (j := 18) 4 [3, 5, 7, 8, 43] [(3, pt p3 0), (5, pt p19 0), (7, .slice A28 (ndg (refT b)) c29), (8, .bool false), (43, .bool (!(decide (([(wd 0 0 : Int), (wd 0 1 : Int), (wd 0 2 : Int), (wd 0 3 : Int)] : List Int) = [0, 0, 0, 0]))))] (by kernel_rfl) rfl ?_
  have hb37 : (!(decide (([(wd 0 0 : Int), (wd 0 1 : Int), (wd 0 2 : Int), (wd 0 3 : Int)] : List Int) = [0, 0, 0, 0]))) = false := by rw [show (decide (([(wd 0 0 : Int), (wd 0 1 : Int), (wd 0 2 : Int), (wd 0 3 : Int)] : List Int) = [0, 0, 0, 0])) = true from by decide +kernel]; rfl
  rw [hb37]
  refine GL.run (j := 26) 8 [3, 5, 8, 51] [(3, pt p3 0), (5, pt p19 0), (8, .bool false), (51, .bool false)] (by kernel_rfl) rfl ?_
  refine GL.k rfl hK36 (fun _ _ h => h) ?_
  refine G.no rfl ?_
  refine G.skipK hK34 (fun _ _ h => h) ?_
  refine G.seqK fun K38 hK39 => ?_
  refine G.seqK fun K40 hK41 => ?_
  refine G.region ?_
  refine GL.run (j := 1) 1 [3, 5, 52] [(3, pt p3 0), (5, pt p19 0), (52, .bool false)] (by kernel_rfl) rfl ?_
  refine GL.k rfl hK41 (fun _ _ h => h) ?_
  refine G.no rfl ?_
  refine G.skipK hK39 (fun _ _ h => h) ?_
  refine G.seqK fun K42 hK43 => ?_
  refine G.region ?_
  refine GL.sem (j := 1) (H30.ldA (o := 0) (ty := 24) (m := 4) (sub := (wl t)) 0 rfl (by kernel_rfl) rfl rfl) [3, 66] [(3, pt p3 0), (66, wv t)] (by kernel_rfl) (by kernel_rfl) rfl ?_
  refine GL.call (j := 2) (Encode_calls t ht w32) (by kernel_rfl) rfl (fun e_ w44 hR => ?_)
  obtain ⟨rfl, H46⟩ := hR
  have H45 : Hp w [] [.blk p3 (wl t) 24, .blk p19 (wl 0) 24, .row A28 (ndg (refT b)) c29 22 1 (dg (digs (refT b)))] w44 := H30.callNil H46
  refine ⟨_, rfl, [3, 67], [(3, pt p3 0), (67, .int .u32 (((encV t) : Nat) : Int))], by kernel_rfl, ?_⟩
  refine GL.run (j := 3) 1 [3, 11] [(3, pt p3 0), (11, .int .u32 (((encV t) : Nat) : Int))] (by kernel_rfl) rfl ?_
  refine GL.k rfl hK43 (fun _ _ h => h) ?_
  refine G.seqK fun K47 hK48 => ?_
  refine G.seqK fun K49 hK50 => ?_
  refine G.region ?_
  refine GL.run (j := 1) 1 [3, 11, 68] [(3, pt p3 0), (11, .int .u32 (((encV t) : Nat) : Int)), (68, .int .u32 (((encV t) : Nat) : Int))] (by kernel_rfl) rfl ?_
  refine GL.sem (j := 2) (H45.ldA (o := 0) (ty := 24) (m := 4) (sub := (wl t)) 0 rfl (by kernel_rfl) rfl rfl) [3, 11, 68, 69] [(3, pt p3 0), (11, .int .u32 (((encV t) : Nat) : Int)), (68, .int .u32 (((encV t) : Nat) : Int)), (69, wv t)] (by kernel_rfl) (by kernel_rfl) rfl ?_
  have hN56 : ndg t ≤ 16 := ndg_K4 ht
  refine GL.call (j := 3) (Of_calls_n t ht w44) (by kernel_rfl) rfl (fun e_ w55 hR => ?_)
  obtain ⟨A51, c52, rfl, H54⟩ := hR
  have H53 : Hp w [] [.blk p3 (wl t) 24, .blk p19 (wl 0) 24, .row A28 (ndg (refT b)) c29 22 1 (dg (digs (refT b))), .row A51 (ndg t) c52 22 1 (dg (digs t))] w55 := H45.callNew H54
  refine ⟨_, rfl, [3, 11, 68, 70], [(3, pt p3 0), (11, .int .u32 (((encV t) : Nat) : Int)), (68, .int .u32 (((encV t) : Nat) : Int)), (70, .slice A51 (ndg t) c52)], by kernel_rfl, ?_⟩
  refine GL.call (j := 4) (Encode6_calls t ht A51 c52 w55 (H53.rdRow 3 rfl)) (by kernel_rfl) rfl (fun e_ w57 hR => ?_)
  obtain ⟨rfl, H59⟩ := hR
  have H58 : Hp w [] [.blk p3 (wl t) 24, .blk p19 (wl 0) 24, .row A28 (ndg (refT b)) c29 22 1 (dg (digs (refT b))), .row A51 (ndg t) c52 22 1 (dg (digs t))] w57 := H53.callNil H59
  refine ⟨_, rfl, [3, 11, 68, 71], [(3, pt p3 0), (11, .int .u32 (((encV t) : Nat) : Int)), (68, .int .u32 (((encV t) : Nat) : Int)), (71, .int .u32 (((encV t) : Nat) : Int))], by kernel_rfl, ?_⟩
  refine GL.run (j := 5) 1 [3, 11, 72] [(3, pt p3 0), (11, .int .u32 (((encV t) : Nat) : Int)), (72, .bool ((((encV t) : Nat) : Int) != (((encV t) : Nat) : Int)))] (by kernel_rfl) rfl ?_
  refine GL.k rfl hK50 (fun _ _ h => h) ?_
  cases hb60 : ((((encV t) : Nat) : Int) != (((encV t) : Nat) : Int))
  · skip
    have hb60f : (((encV t) : Nat) : Int) = (((encV t) : Nat) : Int) := bne_eq_false_iff_eq.1 hb60
    refine G.no rfl ?_
    refine G.skipK hK48 (fun _ _ h => h) ?_
    refine G.seqK fun K61 hK62 => ?_
    refine G.region ?_
    refine GL.run (j := 1) 1 [3, 11, 74] [(3, pt p3 0), (11, .int .u32 (((encV t) : Nat) : Int)), (74, .int .u32 (((encV t) : Nat) : Int))] (by kernel_rfl) rfl ?_
    refine GL.call (j := 2) (Decode_is (encV t) (backV t) 0 (encV_lt ht) (decR_enc ht ht0) (decE_enc ht ht0) w57) (by kernel_rfl) rfl (fun e_ w63 hR => ?_)
    obtain ⟨rfl, H65⟩ := hR
    have H64 : Hp w [] [.blk p3 (wl t) 24, .blk p19 (wl 0) 24, .row A28 (ndg (refT b)) c29 22 1 (dg (digs (refT b))), .row A51 (ndg t) c52 22 1 (dg (digs t))] w63 := H58.callNil H65
    refine ⟨_, rfl, [3, 11, 75], [(3, pt p3 0), (11, .int .u32 (((encV t) : Nat) : Int)), (75, .tuple #[wv (backV t), .int .i64 0])], by kernel_rfl, ?_⟩
    refine GL.run (j := 5) 3 [3, 11, 76, 77] [(3, pt p3 0), (11, .int .u32 (((encV t) : Nat) : Int)), (76, wv (backV t)), (77, .int .i64 0)] (by kernel_rfl) rfl ?_
    obtain ⟨p66, w67, r68, H69⟩ := H64.alloc (P := Try.prog) 24 z4 (by kernel_rfl)
    have H69 : Hp w [] [.blk p3 (wl t) 24, .blk p19 (wl 0) 24, .row A28 (ndg (refT b)) c29 22 1 (dg (digs (refT b))), .row A51 (ndg t) c52 22 1 (dg (digs t)), .blk p66 z4 24] w67 := H69
    refine GL.sem (j := 6) (r68) [3, 11, 12, 76, 77] [(3, pt p3 0), (11, .int .u32 (((encV t) : Nat) : Int)), (12, pt p66 0), (76, wv (backV t)), (77, .int .i64 0)] (by kernel_rfl) (by kernel_rfl) rfl ?_
    obtain ⟨w70, r71, H72⟩ := H69.stA (P := Try.prog) (o := 0) (vs := (wl (backV t))) (ty := 24) (m := 4) 4 rfl (by kernel_rfl) rfl (by first | decide | simp) (wl_one _)
    have H72 : Hp w [] [.blk p3 (wl t) 24, .blk p19 (wl 0) 24, .row A28 (ndg (refT b)) c29 22 1 (dg (digs (refT b))), .row A51 (ndg t) c52 22 1 (dg (digs t)), .blk p66 (wl (backV t)) 24] w70 := H72
    refine GL.semU (j := 7) r71 [3, 11, 12, 77] [(3, pt p3 0), (11, .int .u32 (((encV t) : Nat) : Int)), (12, pt p66 0), (77, .int .i64 0)] (by kernel_rfl) rfl rfl rfl ?_
    refine GL.run (j := 8) 1 [3, 11, 12, 13] [(3, pt p3 0), (11, .int .u32 (((encV t) : Nat) : Int)), (12, pt p66 0), (13, .int .i64 0)] (by kernel_rfl) rfl ?_
    refine GL.k rfl hK62 (fun _ _ h => h) ?_
    refine G.seqK fun K73 hK74 => ?_
    refine G.region ?_
    refine GL.sem (j := 1) (H72.ldA (o := 0) (ty := 24) (m := 4) (sub := (wl t)) 0 rfl (by kernel_rfl) rfl rfl) [3, 11, 12, 13, 78] [(3, pt p3 0), (11, .int .u32 (((encV t) : Nat) : Int)), (12, pt p66 0), (13, .int .i64 0), (78, wv t)] (by kernel_rfl) (by kernel_rfl) rfl ?_
    refine GL.run (j := 2) 1 [3, 11, 12, 13, 78, 79] [(3, pt p3 0), (11, .int .u32 (((encV t) : Nat) : Int)), (12, pt p66 0), (13, .int .i64 0), (78, wv t), (79, .agg #[.int .u64 0, .int .u64 0, .int .u64 0, .int .u64 0])] (by kernel_rfl) rfl ?_
    refine GL.sem (j := 3) (run_arr_eql (P := Try.prog) (t := 24) (n := 4) (k := .u64) (x := (.tmp 78)) (y := (.tmp 79)) (by kernel_rfl) [(wd t 0 : Int), (wd t 1 : Int), (wd t 2 : Int), (wd t 3 : Int)] [0, 0, 0, 0] rfl rfl _) [3, 11, 12, 13, 80] [(3, pt p3 0), (11, .int .u32 (((encV t) : Nat) : Int)), (12, pt p66 0), (13, .int .i64 0), (80, .bool (decide (([(wd t 0 : Int), (wd t 1 : Int), (wd t 2 : Int), (wd t 3 : Int)] : List Int) = [0, 0, 0, 0])))] (by kernel_rfl) (by kernel_rfl) rfl ?_
    refine GL.run (j := 4) 1 [3, 11, 12, 13, 81] [(3, pt p3 0), (11, .int .u32 (((encV t) : Nat) : Int)), (12, pt p66 0), (13, .int .i64 0), (81, .bool (decide (([(wd t 0 : Int), (wd t 1 : Int), (wd t 2 : Int), (wd t 3 : Int)] : List Int) = [0, 0, 0, 0])))] (by kernel_rfl) rfl ?_
    have hb75 : (decide (([(wd t 0 : Int), (wd t 1 : Int), (wd t 2 : Int), (wd t 3 : Int)] : List Int) = [0, 0, 0, 0])) = false := decide_eq_false (fun h => ht0 ((wv_eq (y := 0) ht (by decide)).1 h))
    rw [hb75]
    refine GL.run (j := 7) 3 [3, 11, 12, 81, 84] [(3, pt p3 0), (11, .int .u32 (((encV t) : Nat) : Int)), (12, pt p66 0), (81, .bool false), (84, .bool true)] (by kernel_rfl) rfl ?_
    refine GL.sem (j := 8) (H72.ldA (o := 0) (ty := 24) (m := 4) (sub := (wl (backV t))) 4 rfl (by kernel_rfl) rfl rfl) [3, 11, 12, 81, 84, 85] [(3, pt p3 0), (11, .int .u32 (((encV t) : Nat) : Int)), (12, pt p66 0), (81, .bool false), (84, .bool true), (85, wv (backV t))] (by kernel_rfl) (by kernel_rfl) rfl ?_
    refine GL.sem (j := 9) (H72.ldA (o := 0) (ty := 24) (m := 4) (sub := (wl t)) 0 rfl (by kernel_rfl) rfl rfl) [11, 12, 81, 84, 85, 86] [(11, .int .u32 (((encV t) : Nat) : Int)), (12, pt p66 0), (81, .bool false), (84, .bool true), (85, wv (backV t)), (86, wv t)] (by kernel_rfl) (by kernel_rfl) rfl ?_
    refine GL.call (j := 10) (Cmp_calls (backV t) t (Nat.lt_of_le_of_lt (backV_le t) ht) ht w70) (by kernel_rfl) rfl (fun e_ w76 hR => ?_)
    obtain ⟨he_, H78⟩ := hR
    subst he_
    have H77 : Hp w [] [.blk p3 (wl t) 24, .blk p19 (wl 0) 24, .row A28 (ndg (refT b)) c29 22 1 (dg (digs (refT b))), .row A51 (ndg t) c52 22 1 (dg (digs t)), .blk p66 (wl (backV t)) 24] w76 := H72.callNil H78
    refine ⟨_, rfl, [11, 12, 81, 84, 87], [(11, .int .u32 (((encV t) : Nat) : Int)), (12, pt p66 0), (81, .bool false), (84, .bool true), (87, .int .i64 (cmpN (backV t) t))], by kernel_rfl, ?_⟩
    refine GL.run (j := 13) 3 [11, 12, 81, 90] [(11, .int .u32 (((encV t) : Nat) : Int)), (12, pt p66 0), (81, .bool false), (90, .bool (decide ((cmpN (backV t) t) ≤ 0)))] (by kernel_rfl) rfl ?_
    have hb79 : (decide ((cmpN (backV t) t) ≤ 0)) = true := decide_eq_true (cmp_le0.2 (backV_le t))
    rw [hb79]
    refine GL.sem (j := 14) (H77.ldA (o := 0) (ty := 24) (m := 4) (sub := (wl (backV t))) 4 rfl (by kernel_rfl) rfl rfl) [11, 81, 90, 91] [(11, .int .u32 (((encV t) : Nat) : Int)), (81, .bool false), (90, .bool true), (91, wv (backV t))] (by kernel_rfl) (by kernel_rfl) rfl ?_
    refine GL.call (j := 15) (Encode_calls (backV t) (Nat.lt_of_le_of_lt (backV_le t) ht) w76) (by kernel_rfl) rfl (fun e_ w80 hR => ?_)
    obtain ⟨rfl, H82⟩ := hR
    have H81 : Hp w [] [.blk p3 (wl t) 24, .blk p19 (wl 0) 24, .row A28 (ndg (refT b)) c29 22 1 (dg (digs (refT b))), .row A51 (ndg t) c52 22 1 (dg (digs t)), .blk p66 (wl (backV t)) 24] w80 := H77.callNil H82
    refine ⟨_, rfl, [11, 81, 90, 92], [(11, .int .u32 (((encV t) : Nat) : Int)), (81, .bool false), (90, .bool true), (92, .int .u32 (((encV (backV t)) : Nat) : Int))], by kernel_rfl, ?_⟩
    refine GL.run (j := 20) 5 [4] [(4, .bool ((((encV (backV t)) : Nat) : Int) == (((encV t) : Nat) : Int)))] (by kernel_rfl) rfl ?_
    refine GL.k rfl hK74 (fun _ _ h => h) ?_
    refine G.ret ?_
    intro F_ hF_ hM_
    refine hRet _ _ (bodyPost_1 rfl (RV.tmp rfl) ?_ F_ hF_ hM_)
    have hb83 : ((((encV (backV t)) : Nat) : Int) == (((encV t) : Nat) : Int)) = true := by rw [encV_back]; exact beq_self_eq_true _
    rw [hb83]
    exact ⟨rfl, H81.sub (List.nil_sublist _)⟩
  · skip
    have hb60f : (((encV t) : Nat) : Int) ≠ (((encV t) : Nat) : Int) := bne_iff_ne.1 hb60
    refine G.yes rfl ?_
    refine G.seqK fun K84 hK85 => ?_
    refine G.region ?_
    refine GL.run (j := 1) 1 [4] [(4, .bool false)] (by kernel_rfl) rfl ?_
    refine GL.k rfl hK85 (fun _ _ h => h) ?_
    refine G.ret ?_
    intro F_ hF_ hM_
    refine hRet _ _ (bodyPost_1 rfl (RV.tmp rfl) ?_ F_ hF_ hM_)
    exfalso
    omega
theorem TargetDecodes_calls (b t : Nat) (hb : b < 4294967296) (ht : t < K4) (w : World) : Calls Try.prog 5 #[.int .u32 (b : Int), wv t] w fun e w' => e = .returned (.bool true) ∧ Hp w [] [] w' := by
  rcases (refOK_iff b).2 with hE | hE
  · by_cases h0 : t = 0
    · exact TargetDecodes_11 b t hb ht hE h0 w
    · exact TargetDecodes_10 b t hb ht hE h0 w
  · by_cases h0 : t = 0
    · exact TargetDecodes_01 b t hb ht hE h0 w
    · exact TargetDecodes_00 b t hb ht hE h0 w
end Go.Proofs.Ytjfllmkihfidcaa
