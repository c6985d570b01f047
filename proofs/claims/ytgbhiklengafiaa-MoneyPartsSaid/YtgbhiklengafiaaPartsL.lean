/- A part of any amount is the exact one: the walk. -/
import Derived.Test.YtgbhiklengafiaaLives
import Derived.Test.YtgbhiklengafiaaNumB
namespace Go.Proofs.Ytgbhiklengafiaa
open Go.RowKit
theorem MoneyParts_true (a u d : Nat) (ha : a < K) (hu : u < K) (hd : d < K) (w : World) : Calls Try.prog 4 #[.int .u64 (a : Int), .int .u64 (u : Int), .int .u64 (d : Int), .bool true] w fun e w' => e = .returned (.bool true) ∧ Hp w [] [] w' := by
  have hMX : MX = 4611686018427387904 := rfl
  have hK0 : K = 18446744073709551616 := rfl
  have hK40 : K4 = 115792089237316195423570985008687907853269984665640564039457584007913129639936 := rfl
  have R := partE_cases a u d true
  have Rv := part_any a u d true
  refine calls_G (args := [.int .u64 (a : Int), .int .u64 (u : Int), .int .u64 (d : Int), .bool true]) Try.func4 rfl Try.ntmps4 rfl ?_
  intro Q0 hRet hNor hPan
  have H := Hp.start w
  have H : Hp w [] [] w := H
  refine G.seqK fun K1 hK2 => ?_
  refine G.region ?_
  refine GL.run (j := 1) 1 [0, 1, 2, 3, 8] [(0, .int .u64 (a : Int)), (1, .int .u64 (u : Int)), (2, .int .u64 (d : Int)), (3, .bool true), (8, .bool false)] (by kernel_rfl) rfl ?_
  refine GL.k rfl hK2 (fun _ _ h => h) ?_
  refine G.seqK fun K3 hK4 => ?_
  refine G.seqK fun K5 hK6 => ?_
  refine G.region ?_
  refine GL.call (j := 1) (lives_calls w) (by kernel_rfl) rfl (fun e_ w7 hR => ?_)
  obtain ⟨rfl, H9⟩ := hR
  have H8 : Hp w [] [] w7 := H.callNil H9
  refine ⟨_, rfl, [0, 1, 2, 3, 8, 15], [(0, .int .u64 (a : Int)), (1, .int .u64 (u : Int)), (2, .int .u64 (d : Int)), (3, .bool true), (8, .bool false), (15, .bool true)], by kernel_rfl, ?_⟩
  refine GL.run (j := 2) 1 [0, 1, 2, 3, 8, 16] [(0, .int .u64 (a : Int)), (1, .int .u64 (u : Int)), (2, .int .u64 (d : Int)), (3, .bool true), (8, .bool false), (16, .bool false)] (by kernel_rfl) rfl ?_
  refine GL.k rfl hK6 (fun _ _ h => h) ?_
  refine G.no rfl ?_
  refine G.skipK hK4 (fun _ _ h => h) ?_
  refine G.seqK fun K10 hK11 => ?_
  refine G.region ?_
  refine GL.run (j := 4) 4 [0, 1, 2, 3, 8, 16, 18, 19, 20, 21] [(0, .int .u64 (a : Int)), (1, .int .u64 (u : Int)), (2, .int .u64 (d : Int)), (3, .bool true), (8, .bool false), (16, .bool false), (18, .int .u64 (a : Int)), (19, .int .u64 (u : Int)), (20, .int .u64 (d : Int)), (21, .bool true)] (by kernel_rfl) rfl ?_
  refine GL.call (j := 5) (Part_upA a u d ha hu hd w7) (by kernel_rfl) rfl (fun e_ w12 hR => ?_)
  obtain ⟨rfl, H14⟩ := hR
  have H13 : Hp w [] [] w12 := H8.callNil H14
  refine ⟨_, rfl, [0, 1, 2, 3, 8, 16, 22], [(0, .int .u64 (a : Int)), (1, .int .u64 (u : Int)), (2, .int .u64 (d : Int)), (3, .bool true), (8, .bool false), (16, .bool false), (22, .tuple #[.int .u64 (((partV a u d true) : Nat) : Int), .int .i64 (((partE a u d true) : Nat) : Int)])], by kernel_rfl, ?_⟩
  refine GL.run (j := 10) 5 [0, 1, 2, 3, 8, 9, 10, 16] [(0, .int .u64 (a : Int)), (1, .int .u64 (u : Int)), (2, .int .u64 (d : Int)), (3, .bool true), (8, .bool false), (9, .int .u64 (((partV a u d true) : Nat) : Int)), (10, .int .i64 (((partE a u d true) : Nat) : Int)), (16, .bool false)] (by kernel_rfl) rfl ?_
  refine GL.k rfl hK11 (fun _ _ h => h) ?_
  refine G.seqK fun K15 hK16 => ?_
  refine G.block ?_
  refine G.seqK fun K17 hK18 => ?_
  refine G.region ?_
  refine GL.run (j := 3) 3 [0, 1, 2, 3, 8, 9, 10, 16, 25] [(0, .int .u64 (a : Int)), (1, .int .u64 (u : Int)), (2, .int .u64 (d : Int)), (3, .bool true), (8, .bool false), (9, .int .u64 (((partV a u d true) : Nat) : Int)), (10, .int .i64 (((partE a u d true) : Nat) : Int)), (16, .bool false), (25, .bool (decide (4611686018427387904 < (a : Int))))] (by kernel_rfl) rfl ?_
  refine GL.k rfl hK18 (fun _ _ h => h) ?_
  cases hb19 : (decide (4611686018427387904 < (a : Int)))
  · skip
    have hb19f := of_decide_eq_false hb19
    refine G.no rfl ?_
    refine G.seqK fun K20 hK21 => ?_
    refine G.region ?_
    refine GL.run (j := 3) 3 [0, 1, 2, 3, 8, 9, 10, 16, 25, 34] [(0, .int .u64 (a : Int)), (1, .int .u64 (u : Int)), (2, .int .u64 (d : Int)), (3, .bool true), (8, .bool false), (9, .int .u64 (((partV a u d true) : Nat) : Int)), (10, .int .i64 (((partE a u d true) : Nat) : Int)), (16, .bool false), (25, .bool false), (34, .bool ((d : Int) == 0))] (by kernel_rfl) rfl ?_
    refine GL.k rfl hK21 (fun _ _ h => h) ?_
    cases hb22 : ((d : Int) == 0)
    · skip
      have hb22f := ne_of_beq_false hb22
      refine G.no rfl ?_
      refine G.skipK hK16 (fun _ _ h => h) ?_
      refine G.seqK fun K23 hK24 => ?_
      refine G.region ?_
      refine GL.run (j := 2) 2 [0, 1, 2, 3, 8, 9, 10, 16, 25, 34, 45] [(0, .int .u64 (a : Int)), (1, .int .u64 (u : Int)), (2, .int .u64 (d : Int)), (3, .bool true), (8, .bool false), (9, .int .u64 (((partV a u d true) : Nat) : Int)), (10, .int .i64 (((partE a u d true) : Nat) : Int)), (16, .bool false), (25, .bool false), (34, .bool false), (45, .agg #[.int .u64 (a : Int), .int .u64 0, .int .u64 0, .int .u64 0])] (by kernel_rfl) rfl ?_
      have hN30 : ndg a ≤ 4 := ndg_K ha
      refine GL.call (j := 3) (Of1_calls_n a ha w12) (by kernel_rfl) rfl (fun e_ w29 hR => ?_)
      obtain ⟨A25, c26, rfl, H28⟩ := hR
      have H27 : Hp w [] [.row A25 (ndg a) c26 22 1 (dg (digs a))] w29 := H13.callNew H28
      refine ⟨_, rfl, [0, 1, 2, 3, 8, 9, 10, 16, 25, 34, 46], [(0, .int .u64 (a : Int)), (1, .int .u64 (u : Int)), (2, .int .u64 (d : Int)), (3, .bool true), (8, .bool false), (9, .int .u64 (((partV a u d true) : Nat) : Int)), (10, .int .i64 (((partE a u d true) : Nat) : Int)), (16, .bool false), (25, .bool false), (34, .bool false), (46, .slice A25 (ndg a) c26)], by kernel_rfl, ?_⟩
      refine GL.run (j := 5) 2 [0, 1, 2, 3, 8, 9, 10, 16, 25, 34, 46, 48] [(0, .int .u64 (a : Int)), (1, .int .u64 (u : Int)), (2, .int .u64 (d : Int)), (3, .bool true), (8, .bool false), (9, .int .u64 (((partV a u d true) : Nat) : Int)), (10, .int .i64 (((partE a u d true) : Nat) : Int)), (16, .bool false), (25, .bool false), (34, .bool false), (46, .slice A25 (ndg a) c26), (48, .agg #[.int .u64 (u : Int), .int .u64 0, .int .u64 0, .int .u64 0])] (by kernel_rfl) rfl ?_
      have hN36 : ndg u ≤ 4 := ndg_K hu
      refine GL.call (j := 6) (Of1_calls_n u hu w29) (by kernel_rfl) rfl (fun e_ w35 hR => ?_)
      obtain ⟨A31, c32, rfl, H34⟩ := hR
      have H33 : Hp w [] [.row A25 (ndg a) c26 22 1 (dg (digs a)), .row A31 (ndg u) c32 22 1 (dg (digs u))] w35 := H27.callNew H34
      refine ⟨_, rfl, [0, 1, 2, 3, 8, 9, 10, 16, 25, 34, 46, 49], [(0, .int .u64 (a : Int)), (1, .int .u64 (u : Int)), (2, .int .u64 (d : Int)), (3, .bool true), (8, .bool false), (9, .int .u64 (((partV a u d true) : Nat) : Int)), (10, .int .i64 (((partE a u d true) : Nat) : Int)), (16, .bool false), (25, .bool false), (34, .bool false), (46, .slice A25 (ndg a) c26), (49, .slice A31 (ndg u) c32)], by kernel_rfl, ?_⟩
      have hN42 : ndg (a * u) ≤ 8 := ndg_mul hN30 hN36
      refine GL.call (j := 7) (MulN_calls a u A25 c26 A31 c32 w35 (H33.rdRow 0 rfl) (H33.rdRow 1 rfl) (Nat.le_trans hN30 (by decide)) (Nat.le_trans hN36 (by decide))) (by kernel_rfl) rfl (fun e_ w41 hR => ?_)
      obtain ⟨A37, c38, rfl, H40⟩ := hR
      have H39 : Hp w [] [.row A25 (ndg a) c26 22 1 (dg (digs a)), .row A31 (ndg u) c32 22 1 (dg (digs u)), .row A37 (ndg (a * u)) c38 22 1 (dg (digs (a * u)))] w41 := H33.callNew H40
      refine ⟨_, rfl, [0, 1, 2, 3, 8, 9, 10, 16, 25, 34, 50], [(0, .int .u64 (a : Int)), (1, .int .u64 (u : Int)), (2, .int .u64 (d : Int)), (3, .bool true), (8, .bool false), (9, .int .u64 (((partV a u d true) : Nat) : Int)), (10, .int .i64 (((partE a u d true) : Nat) : Int)), (16, .bool false), (25, .bool false), (34, .bool false), (50, .slice A37 (ndg (a * u)) c38)], by kernel_rfl, ?_⟩
      refine GL.run (j := 9) 2 [0, 1, 2, 3, 8, 9, 10, 16, 25, 34, 50, 52] [(0, .int .u64 (a : Int)), (1, .int .u64 (u : Int)), (2, .int .u64 (d : Int)), (3, .bool true), (8, .bool false), (9, .int .u64 (((partV a u d true) : Nat) : Int)), (10, .int .i64 (((partE a u d true) : Nat) : Int)), (16, .bool false), (25, .bool false), (34, .bool false), (50, .slice A37 (ndg (a * u)) c38), (52, .agg #[.int .u64 (d : Int), .int .u64 0, .int .u64 0, .int .u64 0])] (by kernel_rfl) rfl ?_
      have hN48 : ndg d ≤ 4 := ndg_K hd
      refine GL.call (j := 10) (Of1_calls_n d hd w41) (by kernel_rfl) rfl (fun e_ w47 hR => ?_)
      obtain ⟨A43, c44, rfl, H46⟩ := hR
      have H45 : Hp w [] [.row A25 (ndg a) c26 22 1 (dg (digs a)), .row A31 (ndg u) c32 22 1 (dg (digs u)), .row A37 (ndg (a * u)) c38 22 1 (dg (digs (a * u))), .row A43 (ndg d) c44 22 1 (dg (digs d))] w47 := H39.callNew H46
      refine ⟨_, rfl, [0, 1, 2, 3, 8, 9, 10, 16, 25, 34, 50, 53], [(0, .int .u64 (a : Int)), (1, .int .u64 (u : Int)), (2, .int .u64 (d : Int)), (3, .bool true), (8, .bool false), (9, .int .u64 (((partV a u d true) : Nat) : Int)), (10, .int .i64 (((partE a u d true) : Nat) : Int)), (16, .bool false), (25, .bool false), (34, .bool false), (50, .slice A37 (ndg (a * u)) c38), (53, .slice A43 (ndg d) c44)], by kernel_rfl, ?_⟩
      have hN56 : ndg ((a * u) / d) ≤ 8 := ndg_div hN42
      have hN57 : ndg ((a * u) % d) ≤ 8 := ndg_mod hN42
      refine GL.call (j := 11) (DivN_calls (a * u) d A37 c38 A43 c44 w47 (H45.rdRow 2 rfl) (H45.rdRow 3 rfl) (Nat.le_trans hN42 (by decide)) (Nat.le_trans hN48 (by decide)) ((by omega))) (by kernel_rfl) rfl (fun e_ w55 hR => ?_)
      obtain ⟨A49, c50, A51, c52, rfl, H54⟩ := hR
      have H53 : Hp w [] [.row A25 (ndg a) c26 22 1 (dg (digs a)), .row A31 (ndg u) c32 22 1 (dg (digs u)), .row A37 (ndg (a * u)) c38 22 1 (dg (digs (a * u))), .row A43 (ndg d) c44 22 1 (dg (digs d)), .row A51 (ndg ((a * u) % d)) c52 22 1 (dg (digs ((a * u) % d))), .row A49 (ndg ((a * u) / d)) c50 22 1 (dg (digs ((a * u) / d)))] w55 := H45.callNew H54
      refine ⟨_, rfl, [0, 1, 2, 3, 8, 9, 10, 16, 25, 34, 54], [(0, .int .u64 (a : Int)), (1, .int .u64 (u : Int)), (2, .int .u64 (d : Int)), (3, .bool true), (8, .bool false), (9, .int .u64 (((partV a u d true) : Nat) : Int)), (10, .int .i64 (((partE a u d true) : Nat) : Int)), (16, .bool false), (25, .bool false), (34, .bool false), (54, .tuple #[.slice A49 (ndg ((a * u) / d)) c50, .slice A51 (ndg ((a * u) % d)) c52])], by kernel_rfl, ?_⟩
      refine GL.run (j := 16) 5 [0, 1, 2, 3, 8, 9, 10, 11, 12, 16, 25, 34] [(0, .int .u64 (a : Int)), (1, .int .u64 (u : Int)), (2, .int .u64 (d : Int)), (3, .bool true), (8, .bool false), (9, .int .u64 (((partV a u d true) : Nat) : Int)), (10, .int .i64 (((partE a u d true) : Nat) : Int)), (11, .slice A49 (ndg ((a * u) / d)) c50), (12, .slice A51 (ndg ((a * u) % d)) c52), (16, .bool false), (25, .bool false), (34, .bool false)] (by kernel_rfl) rfl ?_
      refine GL.k rfl hK24 (fun _ _ h => h) ?_
      refine G.seqK fun K58 hK59 => ?_
      refine G.seqK fun K60 hK61 => ?_
      refine G.region ?_
      refine GL.run (j := 6) 6 [0, 1, 2, 3, 8, 9, 10, 11, 12, 16, 25, 34, 62] [(0, .int .u64 (a : Int)), (1, .int .u64 (u : Int)), (2, .int .u64 (d : Int)), (3, .bool true), (8, .bool false), (9, .int .u64 (((partV a u d true) : Nat) : Int)), (10, .int .i64 (((partE a u d true) : Nat) : Int)), (11, .slice A49 (ndg ((a * u) / d)) c50), (12, .slice A51 (ndg ((a * u) % d)) c52), (16, .bool false), (25, .bool false), (34, .bool false), (62, .bool (decide (0 < (((ndg ((a * u) % d)) : Nat) : Int))))] (by kernel_rfl) rfl ?_
      refine GL.k rfl hK61 (fun _ _ h => h) ?_
      cases hb62 : (decide (0 < (((ndg ((a * u) % d)) : Nat) : Int)))
      · skip
        have hb62f := of_decide_eq_false hb62
        have hrest : a * u % d = 0 := by have := @ndg_pos (a * u % d); omega
        have hQ := partQ_none hrest
        refine G.no rfl ?_
        refine G.skipK hK59 (fun _ _ h => h) ?_
        refine G.seqK fun K63 hK64 => ?_
        refine G.seqK fun K65 hK66 => ?_
        refine G.region ?_
        refine GL.run (j := 2) 2 [0, 1, 2, 3, 8, 9, 10, 11, 12, 16, 25, 34, 62, 66, 67] [(0, .int .u64 (a : Int)), (1, .int .u64 (u : Int)), (2, .int .u64 (d : Int)), (3, .bool true), (8, .bool false), (9, .int .u64 (((partV a u d true) : Nat) : Int)), (10, .int .i64 (((partE a u d true) : Nat) : Int)), (11, .slice A49 (ndg ((a * u) / d)) c50), (12, .slice A51 (ndg ((a * u) % d)) c52), (16, .bool false), (25, .bool false), (34, .bool false), (62, .bool false), (66, .slice A49 (ndg ((a * u) / d)) c50), (67, .agg #[.int .u64 4611686018427387904, .int .u64 0, .int .u64 0, .int .u64 0])] (by kernel_rfl) rfl ?_
        have hN72 : ndg 4611686018427387904 ≤ 4 := ndg_K (by decide)
        refine GL.call (j := 3) (Of_calls_n 4611686018427387904 (by decide) w55) (by kernel_rfl) rfl (fun e_ w71 hR => ?_)
        obtain ⟨A67, c68, rfl, H70⟩ := hR
        have H69 : Hp w [] [.row A25 (ndg a) c26 22 1 (dg (digs a)), .row A31 (ndg u) c32 22 1 (dg (digs u)), .row A37 (ndg (a * u)) c38 22 1 (dg (digs (a * u))), .row A43 (ndg d) c44 22 1 (dg (digs d)), .row A51 (ndg ((a * u) % d)) c52 22 1 (dg (digs ((a * u) % d))), .row A49 (ndg ((a * u) / d)) c50 22 1 (dg (digs ((a * u) / d))), .row A67 (ndg 4611686018427387904) c68 22 1 (dg (digs 4611686018427387904))] w71 := H53.callNew H70
        refine ⟨_, rfl, [0, 1, 2, 3, 8, 9, 10, 11, 12, 16, 25, 34, 62, 66, 68], [(0, .int .u64 (a : Int)), (1, .int .u64 (u : Int)), (2, .int .u64 (d : Int)), (3, .bool true), (8, .bool false), (9, .int .u64 (((partV a u d true) : Nat) : Int)), (10, .int .i64 (((partE a u d true) : Nat) : Int)), (11, .slice A49 (ndg ((a * u) / d)) c50), (12, .slice A51 (ndg ((a * u) % d)) c52), (16, .bool false), (25, .bool false), (34, .bool false), (62, .bool false), (66, .slice A49 (ndg ((a * u) / d)) c50), (68, .slice A67 (ndg 4611686018427387904) c68)], by kernel_rfl, ?_⟩
        refine GL.call (j := 4) (CmpN_calls ((a * u) / d) 4611686018427387904 A49 A67 c50 c68 w71 (H69.rdRow 5 rfl) (H69.rdRow 6 rfl) (Nat.le_trans hN56 (by decide)) (Nat.le_trans hN72 (by decide))) (by kernel_rfl) rfl (fun e_ w73 hR => ?_)
        obtain ⟨rfl, H75⟩ := hR
        have H74 : Hp w [] [.row A25 (ndg a) c26 22 1 (dg (digs a)), .row A31 (ndg u) c32 22 1 (dg (digs u)), .row A37 (ndg (a * u)) c38 22 1 (dg (digs (a * u))), .row A43 (ndg d) c44 22 1 (dg (digs d)), .row A51 (ndg ((a * u) % d)) c52 22 1 (dg (digs ((a * u) % d))), .row A49 (ndg ((a * u) / d)) c50 22 1 (dg (digs ((a * u) / d))), .row A67 (ndg 4611686018427387904) c68 22 1 (dg (digs 4611686018427387904))] w73 := H69.callNil H75
        refine ⟨_, rfl, [0, 1, 2, 3, 8, 9, 10, 11, 12, 16, 25, 34, 62, 69], [(0, .int .u64 (a : Int)), (1, .int .u64 (u : Int)), (2, .int .u64 (d : Int)), (3, .bool true), (8, .bool false), (9, .int .u64 (((partV a u d true) : Nat) : Int)), (10, .int .i64 (((partE a u d true) : Nat) : Int)), (11, .slice A49 (ndg ((a * u) / d)) c50), (12, .slice A51 (ndg ((a * u) % d)) c52), (16, .bool false), (25, .bool false), (34, .bool false), (62, .bool false), (69, .int .i64 (cmpN ((a * u) / d) 4611686018427387904))], by kernel_rfl, ?_⟩
        refine GL.run (j := 5) 1 [0, 1, 2, 3, 8, 9, 10, 11, 12, 16, 25, 34, 62, 70] [(0, .int .u64 (a : Int)), (1, .int .u64 (u : Int)), (2, .int .u64 (d : Int)), (3, .bool true), (8, .bool false), (9, .int .u64 (((partV a u d true) : Nat) : Int)), (10, .int .i64 (((partE a u d true) : Nat) : Int)), (11, .slice A49 (ndg ((a * u) / d)) c50), (12, .slice A51 (ndg ((a * u) % d)) c52), (16, .bool false), (25, .bool false), (34, .bool false), (62, .bool false), (70, .bool (decide (0 < (cmpN ((a * u) / d) 4611686018427387904))))] (by kernel_rfl) rfl ?_
        refine GL.k rfl hK66 (fun _ _ h => h) ?_
        cases hb76 : (decide (0 < (cmpN ((a * u) / d) 4611686018427387904)))
        · skip
          have hb76f := of_decide_eq_false hb76
          have hov : ¬ 4611686018427387904 < ((a * u) / d) := fun h => hb76f (cmp_gt0.2 h)
          have hlw := low_word (q := ((a * u) / d)) (by omega)
          refine G.no rfl ?_
          refine G.skipK hK64 (fun _ _ h => h) ?_
          refine G.seqK fun K77 hK78 => ?_
          refine G.region ?_
          refine GL.run (j := 1) 1 [0, 1, 2, 3, 8, 9, 10, 11, 12, 16, 25, 34, 62, 70, 78] [(0, .int .u64 (a : Int)), (1, .int .u64 (u : Int)), (2, .int .u64 (d : Int)), (3, .bool true), (8, .bool false), (9, .int .u64 (((partV a u d true) : Nat) : Int)), (10, .int .i64 (((partE a u d true) : Nat) : Int)), (11, .slice A49 (ndg ((a * u) / d)) c50), (12, .slice A51 (ndg ((a * u) % d)) c52), (16, .bool false), (25, .bool false), (34, .bool false), (62, .bool false), (70, .bool false), (78, .slice A49 (ndg ((a * u) / d)) c50)] (by kernel_rfl) rfl ?_
          refine GL.call (j := 2) (WordsN_calls ((a * u) / d) A49 c50 w73 (H74.rdRow 5 rfl) (Nat.le_trans hN56 (by decide))) (by kernel_rfl) rfl (fun e_ w79 hR => ?_)
          obtain ⟨rfl, H81⟩ := hR
          have H80 : Hp w [] [.row A25 (ndg a) c26 22 1 (dg (digs a)), .row A31 (ndg u) c32 22 1 (dg (digs u)), .row A37 (ndg (a * u)) c38 22 1 (dg (digs (a * u))), .row A43 (ndg d) c44 22 1 (dg (digs d)), .row A51 (ndg ((a * u) % d)) c52 22 1 (dg (digs ((a * u) % d))), .row A49 (ndg ((a * u) / d)) c50 22 1 (dg (digs ((a * u) / d))), .row A67 (ndg 4611686018427387904) c68 22 1 (dg (digs 4611686018427387904))] w79 := H74.callNil H81
          refine ⟨_, rfl, [0, 1, 2, 3, 8, 9, 10, 11, 12, 16, 25, 34, 62, 70, 79], [(0, .int .u64 (a : Int)), (1, .int .u64 (u : Int)), (2, .int .u64 (d : Int)), (3, .bool true), (8, .bool false), (9, .int .u64 (((partV a u d true) : Nat) : Int)), (10, .int .i64 (((partE a u d true) : Nat) : Int)), (11, .slice A49 (ndg ((a * u) / d)) c50), (12, .slice A51 (ndg ((a * u) % d)) c52), (16, .bool false), (25, .bool false), (34, .bool false), (62, .bool false), (70, .bool false), (79, .tuple #[.agg #[.int .u64 (wd (((a * u) / d) % K4) 0 : Int), .int .u64 (wd (((a * u) / d) % K4) 1 : Int), .int .u64 (wd (((a * u) / d) % K4) 2 : Int), .int .u64 (wd (((a * u) / d) % K4) 3 : Int)], .bool (decide (K4 ≤ ((a * u) / d)))])], by kernel_rfl, ?_⟩
          refine GL.run (j := 5) 3 [0, 1, 2, 3, 8, 9, 10, 11, 12, 16, 25, 34, 62, 70, 80, 81] [(0, .int .u64 (a : Int)), (1, .int .u64 (u : Int)), (2, .int .u64 (d : Int)), (3, .bool true), (8, .bool false), (9, .int .u64 (((partV a u d true) : Nat) : Int)), (10, .int .i64 (((partE a u d true) : Nat) : Int)), (11, .slice A49 (ndg ((a * u) / d)) c50), (12, .slice A51 (ndg ((a * u) % d)) c52), (16, .bool false), (25, .bool false), (34, .bool false), (62, .bool false), (70, .bool false), (80, .agg #[.int .u64 (wd (((a * u) / d) % K4) 0 : Int), .int .u64 (wd (((a * u) / d) % K4) 1 : Int), .int .u64 (wd (((a * u) / d) % K4) 2 : Int), .int .u64 (wd (((a * u) / d) % K4) 3 : Int)]), (81, .bool (decide (K4 ≤ ((a * u) / d))))] (by kernel_rfl) rfl ?_
          obtain ⟨p82, w83, r84, H85⟩ := H80.alloc (P := Try.prog) 35 [.int .u64 0, .int .u64 0, .int .u64 0, .int .u64 0] (by kernel_rfl)
          have H85 : Hp w [] [.row A25 (ndg a) c26 22 1 (dg (digs a)), .row A31 (ndg u) c32 22 1 (dg (digs u)), .row A37 (ndg (a * u)) c38 22 1 (dg (digs (a * u))), .row A43 (ndg d) c44 22 1 (dg (digs d)), .row A51 (ndg ((a * u) % d)) c52 22 1 (dg (digs ((a * u) % d))), .row A49 (ndg ((a * u) / d)) c50 22 1 (dg (digs ((a * u) / d))), .row A67 (ndg 4611686018427387904) c68 22 1 (dg (digs 4611686018427387904)), .blk p82 [.int .u64 0, .int .u64 0, .int .u64 0, .int .u64 0] 35] w83 := H85
          refine GL.sem (j := 6) (r84) [0, 1, 2, 3, 8, 9, 10, 11, 12, 13, 16, 25, 34, 62, 70, 80, 81] [(0, .int .u64 (a : Int)), (1, .int .u64 (u : Int)), (2, .int .u64 (d : Int)), (3, .bool true), (8, .bool false), (9, .int .u64 (((partV a u d true) : Nat) : Int)), (10, .int .i64 (((partE a u d true) : Nat) : Int)), (11, .slice A49 (ndg ((a * u) / d)) c50), (12, .slice A51 (ndg ((a * u) % d)) c52), (13, .pointer (some ⟨p82, 0, none⟩)), (16, .bool false), (25, .bool false), (34, .bool false), (62, .bool false), (70, .bool false), (80, .agg #[.int .u64 (wd (((a * u) / d) % K4) 0 : Int), .int .u64 (wd (((a * u) / d) % K4) 1 : Int), .int .u64 (wd (((a * u) / d) % K4) 2 : Int), .int .u64 (wd (((a * u) / d) % K4) 3 : Int)]), (81, .bool (decide (K4 ≤ ((a * u) / d))))] (by kernel_rfl) (by kernel_rfl) rfl ?_
          obtain ⟨w86, r87, H88⟩ := H85.stA (P := Try.prog) (o := 0) (vs := [.int .u64 (wd (((a * u) / d) % K4) 0 : Int), .int .u64 (wd (((a * u) / d) % K4) 1 : Int), .int .u64 (wd (((a * u) / d) % K4) 2 : Int), .int .u64 (wd (((a * u) / d) % K4) 3 : Int)]) (ty := 35) (m := 4) 7 rfl (by kernel_rfl) rfl (by simp) (by simp [Value.oneCell'])
          have H88 : Hp w [] [.row A25 (ndg a) c26 22 1 (dg (digs a)), .row A31 (ndg u) c32 22 1 (dg (digs u)), .row A37 (ndg (a * u)) c38 22 1 (dg (digs (a * u))), .row A43 (ndg d) c44 22 1 (dg (digs d)), .row A51 (ndg ((a * u) % d)) c52 22 1 (dg (digs ((a * u) % d))), .row A49 (ndg ((a * u) / d)) c50 22 1 (dg (digs ((a * u) / d))), .row A67 (ndg 4611686018427387904) c68 22 1 (dg (digs 4611686018427387904)), .blk p82 [.int .u64 (wd (((a * u) / d) % K4) 0 : Int), .int .u64 (wd (((a * u) / d) % K4) 1 : Int), .int .u64 (wd (((a * u) / d) % K4) 2 : Int), .int .u64 (wd (((a * u) / d) % K4) 3 : Int)] 35] w86 := H88
          refine GL.semU (j := 7) r87 [0, 1, 2, 3, 8, 9, 10, 11, 12, 13, 16, 25, 34, 62, 70, 81] [(0, .int .u64 (a : Int)), (1, .int .u64 (u : Int)), (2, .int .u64 (d : Int)), (3, .bool true), (8, .bool false), (9, .int .u64 (((partV a u d true) : Nat) : Int)), (10, .int .i64 (((partE a u d true) : Nat) : Int)), (11, .slice A49 (ndg ((a * u) / d)) c50), (12, .slice A51 (ndg ((a * u) % d)) c52), (13, .pointer (some ⟨p82, 0, none⟩)), (16, .bool false), (25, .bool false), (34, .bool false), (62, .bool false), (70, .bool false), (81, .bool (decide (K4 ≤ ((a * u) / d))))] (by kernel_rfl) rfl rfl rfl ?_
          refine GL.run (j := 8) 1 [0, 1, 2, 3, 8, 9, 10, 11, 12, 13, 16, 25, 34, 62, 70] [(0, .int .u64 (a : Int)), (1, .int .u64 (u : Int)), (2, .int .u64 (d : Int)), (3, .bool true), (8, .bool false), (9, .int .u64 (((partV a u d true) : Nat) : Int)), (10, .int .i64 (((partE a u d true) : Nat) : Int)), (11, .slice A49 (ndg ((a * u) / d)) c50), (12, .slice A51 (ndg ((a * u) % d)) c52), (13, .pointer (some ⟨p82, 0, none⟩)), (16, .bool false), (25, .bool false), (34, .bool false), (62, .bool false), (70, .bool false)] (by kernel_rfl) rfl ?_
          refine GL.k rfl hK78 (fun _ _ h => h) ?_
          refine G.seqK fun K89 hK90 => ?_
          refine G.region ?_
          refine GL.run (j := 3) 3 [0, 1, 2, 3, 8, 9, 10, 11, 12, 13, 16, 25, 34, 62, 70, 84] [(0, .int .u64 (a : Int)), (1, .int .u64 (u : Int)), (2, .int .u64 (d : Int)), (3, .bool true), (8, .bool false), (9, .int .u64 (((partV a u d true) : Nat) : Int)), (10, .int .i64 (((partE a u d true) : Nat) : Int)), (11, .slice A49 (ndg ((a * u) / d)) c50), (12, .slice A51 (ndg ((a * u) % d)) c52), (13, .pointer (some ⟨p82, 0, none⟩)), (16, .bool false), (25, .bool false), (34, .bool false), (62, .bool false), (70, .bool false), (84, .bool ((((partE a u d true) : Nat) : Int) == 0))] (by kernel_rfl) rfl ?_
          cases hb91 : ((((partE a u d true) : Nat) : Int) == 0)
          · skip
            have hb91f := ne_of_beq_false hb91
            refine GL.run (j := 9) 6 [0, 1, 2, 3, 8, 9, 10, 11, 12, 13, 16, 25, 34, 62, 70] [(0, .int .u64 (a : Int)), (1, .int .u64 (u : Int)), (2, .int .u64 (d : Int)), (3, .bool true), (8, .bool false), (9, .int .u64 (((partV a u d true) : Nat) : Int)), (10, .int .i64 (((partE a u d true) : Nat) : Int)), (11, .slice A49 (ndg ((a * u) / d)) c50), (12, .slice A51 (ndg ((a * u) % d)) c52), (13, .pointer (some ⟨p82, 0, none⟩)), (16, .bool false), (25, .bool false), (34, .bool false), (62, .bool false), (70, .bool false)] (by kernel_rfl) rfl ?_
            refine GL.k rfl hK90 (fun _ _ h => h) ?_
            refine G.ret ?_
            intro F_ hF_ hM_
            refine hRet _ _ (bodyPost_1 rfl (RV.tmp rfl) ?_ F_ hF_ hM_)
            exfalso
            omega
          · skip
            have hb91f := eq_of_beq hb91
            refine GL.run (j := 5) 2 [0, 1, 2, 3, 8, 9, 10, 11, 12, 13, 16, 25, 34, 62, 70, 84, 85, 86] [(0, .int .u64 (a : Int)), (1, .int .u64 (u : Int)), (2, .int .u64 (d : Int)), (3, .bool true), (8, .bool false), (9, .int .u64 (((partV a u d true) : Nat) : Int)), (10, .int .i64 (((partE a u d true) : Nat) : Int)), (11, .slice A49 (ndg ((a * u) / d)) c50), (12, .slice A51 (ndg ((a * u) % d)) c52), (13, .pointer (some ⟨p82, 0, none⟩)), (16, .bool false), (25, .bool false), (34, .bool false), (62, .bool false), (70, .bool false), (84, .bool true), (85, .int .u64 (((partV a u d true) : Nat) : Int)), (86, .pointer (some ⟨p82, 0, none⟩))] (by kernel_rfl) rfl ?_
            refine GL.sem (j := 6) (H88.ld (o := 0) (ty := 22) (v := .int .u64 (wd (((a * u) / d) % K4) 0 : Int)) 7 rfl (by kernel_rfl) rfl) [0, 1, 2, 3, 8, 9, 10, 11, 12, 13, 16, 25, 34, 62, 70, 84, 85, 87] [(0, .int .u64 (a : Int)), (1, .int .u64 (u : Int)), (2, .int .u64 (d : Int)), (3, .bool true), (8, .bool false), (9, .int .u64 (((partV a u d true) : Nat) : Int)), (10, .int .i64 (((partE a u d true) : Nat) : Int)), (11, .slice A49 (ndg ((a * u) / d)) c50), (12, .slice A51 (ndg ((a * u) % d)) c52), (13, .pointer (some ⟨p82, 0, none⟩)), (16, .bool false), (25, .bool false), (34, .bool false), (62, .bool false), (70, .bool false), (84, .bool true), (85, .int .u64 (((partV a u d true) : Nat) : Int)), (87, .int .u64 (wd (((a * u) / d) % K4) 0 : Int))] (by kernel_rfl) (by kernel_rfl) rfl ?_
            refine GL.run (j := 9) 3 [0, 1, 2, 3, 8, 9, 10, 11, 12, 13, 16, 25, 34, 62, 70] [(0, .int .u64 (a : Int)), (1, .int .u64 (u : Int)), (2, .int .u64 (d : Int)), (3, .bool true), (8, .bool ((((partV a u d true) : Nat) : Int) == (wd (((a * u) / d) % K4) 0 : Int))), (9, .int .u64 (((partV a u d true) : Nat) : Int)), (10, .int .i64 (((partE a u d true) : Nat) : Int)), (11, .slice A49 (ndg ((a * u) / d)) c50), (12, .slice A51 (ndg ((a * u) % d)) c52), (13, .pointer (some ⟨p82, 0, none⟩)), (16, .bool false), (25, .bool false), (34, .bool false), (62, .bool false), (70, .bool false)] (by kernel_rfl) rfl ?_
            refine GL.k rfl hK90 (fun _ _ h => h) ?_
            refine G.ret ?_
            intro F_ hF_ hM_
            refine hRet _ _ (bodyPost_1 rfl (RV.tmp rfl) ?_ F_ hF_ hM_)
            cases hb92 : ((((partV a u d true) : Nat) : Int) == (wd (((a * u) / d) % K4) 0 : Int))
            · skip
              have hb92f := ne_of_beq_false hb92
              exfalso
              omega
            · skip
              have hb92f := eq_of_beq hb92
              exact ⟨rfl, H88.sub (List.nil_sublist _)⟩
        · skip
          have hb76f := of_decide_eq_true hb76
          have hov : 4611686018427387904 < ((a * u) / d) := cmp_gt0.1 hb76f
          refine G.yes rfl ?_
          refine G.seqK fun K93 hK94 => ?_
          refine G.region ?_
          refine GL.run (j := 3) 3 [0, 1, 2, 3, 8, 9, 10, 11, 12, 16, 25, 34, 62, 70, 73] [(0, .int .u64 (a : Int)), (1, .int .u64 (u : Int)), (2, .int .u64 (d : Int)), (3, .bool true), (8, .bool false), (9, .int .u64 (((partV a u d true) : Nat) : Int)), (10, .int .i64 (((partE a u d true) : Nat) : Int)), (11, .slice A49 (ndg ((a * u) / d)) c50), (12, .slice A51 (ndg ((a * u) % d)) c52), (16, .bool false), (25, .bool false), (34, .bool false), (62, .bool false), (70, .bool true), (73, .bool ((((partE a u d true) : Nat) : Int) == 4))] (by kernel_rfl) rfl ?_
          cases hb95 : ((((partE a u d true) : Nat) : Int) == 4)
          · skip
            have hb95f := ne_of_beq_false hb95
            refine GL.run (j := 7) 4 [0, 1, 2, 3, 8, 9, 10, 11, 12, 16, 25, 34, 62, 70] [(0, .int .u64 (a : Int)), (1, .int .u64 (u : Int)), (2, .int .u64 (d : Int)), (3, .bool true), (8, .bool false), (9, .int .u64 (((partV a u d true) : Nat) : Int)), (10, .int .i64 (((partE a u d true) : Nat) : Int)), (11, .slice A49 (ndg ((a * u) / d)) c50), (12, .slice A51 (ndg ((a * u) % d)) c52), (16, .bool false), (25, .bool false), (34, .bool false), (62, .bool false), (70, .bool true)] (by kernel_rfl) rfl ?_
            refine GL.k rfl hK94 (fun _ _ h => h) ?_
            refine G.ret ?_
            intro F_ hF_ hM_
            refine hRet _ _ (bodyPost_1 rfl (RV.tmp rfl) ?_ F_ hF_ hM_)
            exfalso
            omega
          · skip
            have hb95f := eq_of_beq hb95
            refine GL.run (j := 7) 4 [0, 1, 2, 3, 8, 9, 10, 11, 12, 16, 25, 34, 62, 70] [(0, .int .u64 (a : Int)), (1, .int .u64 (u : Int)), (2, .int .u64 (d : Int)), (3, .bool true), (8, .bool ((((partV a u d true) : Nat) : Int) == 0)), (9, .int .u64 (((partV a u d true) : Nat) : Int)), (10, .int .i64 (((partE a u d true) : Nat) : Int)), (11, .slice A49 (ndg ((a * u) / d)) c50), (12, .slice A51 (ndg ((a * u) % d)) c52), (16, .bool false), (25, .bool false), (34, .bool false), (62, .bool false), (70, .bool true)] (by kernel_rfl) rfl ?_
            refine GL.k rfl hK94 (fun _ _ h => h) ?_
            refine G.ret ?_
            intro F_ hF_ hM_
            refine hRet _ _ (bodyPost_1 rfl (RV.tmp rfl) ?_ F_ hF_ hM_)
            cases hb96 : ((((partV a u d true) : Nat) : Int) == 0)
            · skip
              have hb96f := ne_of_beq_false hb96
              exfalso
              omega
            · skip
              have hb96f := eq_of_beq hb96
              exact ⟨rfl, H74.sub (List.nil_sublist _)⟩
      · skip
        have hb62f := of_decide_eq_true hb62
        have hrest : a * u % d ≠ 0 := by have := @ndg_pos (a * u % d); omega
        have hQ := partQ_one hrest
        refine G.yes rfl ?_
        refine G.region ?_
        refine GL.run (j := 1) 1 [0, 1, 2, 3, 8, 9, 10, 11, 12, 16, 25, 34, 62, 63] [(0, .int .u64 (a : Int)), (1, .int .u64 (u : Int)), (2, .int .u64 (d : Int)), (3, .bool true), (8, .bool false), (9, .int .u64 (((partV a u d true) : Nat) : Int)), (10, .int .i64 (((partE a u d true) : Nat) : Int)), (11, .slice A49 (ndg ((a * u) / d)) c50), (12, .slice A51 (ndg ((a * u) % d)) c52), (16, .bool false), (25, .bool false), (34, .bool false), (62, .bool true), (63, .slice A49 (ndg ((a * u) / d)) c50)] (by kernel_rfl) rfl ?_
        obtain ⟨p97, w98, r99, H100⟩ := H53.madeRow (P := Try.prog) (Instr.buildSlice 30 1 #[(0, .int .u64 1)]) (fun b_ => .slice (some ⟨b_, 0, none⟩) 1 1) [.int .u64 1] 22 1 1 1 (by kernel_rfl) (by decide) (by decide) rfl
        have H100 : Hp w [] [.row A25 (ndg a) c26 22 1 (dg (digs a)), .row A31 (ndg u) c32 22 1 (dg (digs u)), .row A37 (ndg (a * u)) c38 22 1 (dg (digs (a * u))), .row A43 (ndg d) c44 22 1 (dg (digs d)), .row A51 (ndg ((a * u) % d)) c52 22 1 (dg (digs ((a * u) % d))), .row A49 (ndg ((a * u) / d)) c50 22 1 (dg (digs ((a * u) / d))), .row (some ⟨p97, 0, none⟩) 1 1 22 1 (dg [1])] w98 := H100
        refine GL.sem (j := 2) (r99) [0, 1, 2, 3, 8, 9, 10, 11, 12, 16, 25, 34, 62, 63, 64] [(0, .int .u64 (a : Int)), (1, .int .u64 (u : Int)), (2, .int .u64 (d : Int)), (3, .bool true), (8, .bool false), (9, .int .u64 (((partV a u d true) : Nat) : Int)), (10, .int .i64 (((partE a u d true) : Nat) : Int)), (11, .slice A49 (ndg ((a * u) / d)) c50), (12, .slice A51 (ndg ((a * u) % d)) c52), (16, .bool false), (25, .bool false), (34, .bool false), (62, .bool true), (63, .slice A49 (ndg ((a * u) / d)) c50), (64, .slice (some ⟨p97, 0, none⟩) 1 1)] (by kernel_rfl) (by kernel_rfl) rfl ?_
        have hN108 : ndg (((a * u) / d) + 1) ≤ 9 := ndg_add (i := 8) (Nat.le_trans hN56 (by decide)) (Nat.le_trans (show ndg 1 ≤ 1 from ndg_le.2 (by decide)) (by decide))
        refine GL.call (j := 3) (AddN_calls ((a * u) / d) 1 A49 c50 (some ⟨p97, 0, none⟩) 1 w98 (H100.rdRow 5 rfl) (H100.rdRow 6 rfl) (Nat.le_trans hN56 (by decide)) (Nat.le_trans (show ndg 1 ≤ 1 from ndg_le.2 (by decide)) (by decide))) (by kernel_rfl) rfl (fun e_ w105 hR => ?_)
        obtain ⟨A101, c102, rfl, H104⟩ := hR
        have H103 : Hp w [] [.row A25 (ndg a) c26 22 1 (dg (digs a)), .row A31 (ndg u) c32 22 1 (dg (digs u)), .row A37 (ndg (a * u)) c38 22 1 (dg (digs (a * u))), .row A43 (ndg d) c44 22 1 (dg (digs d)), .row A51 (ndg ((a * u) % d)) c52 22 1 (dg (digs ((a * u) % d))), .row A49 (ndg ((a * u) / d)) c50 22 1 (dg (digs ((a * u) / d))), .row (some ⟨p97, 0, none⟩) 1 1 22 1 (dg [1]), .row A101 (ndg (((a * u) / d) + 1)) c102 22 1 (dg (digs (((a * u) / d) + 1)))] w105 := H100.callNew H104
        refine ⟨_, rfl, [0, 1, 2, 3, 8, 9, 10, 11, 12, 16, 25, 34, 62, 65], [(0, .int .u64 (a : Int)), (1, .int .u64 (u : Int)), (2, .int .u64 (d : Int)), (3, .bool true), (8, .bool false), (9, .int .u64 (((partV a u d true) : Nat) : Int)), (10, .int .i64 (((partE a u d true) : Nat) : Int)), (11, .slice A49 (ndg ((a * u) / d)) c50), (12, .slice A51 (ndg ((a * u) % d)) c52), (16, .bool false), (25, .bool false), (34, .bool false), (62, .bool true), (65, .slice A101 (ndg (((a * u) / d) + 1)) c102)], by kernel_rfl, ?_⟩
        refine GL.run (j := 4) 1 [0, 1, 2, 3, 8, 9, 10, 11, 12, 16, 25, 34, 62] [(0, .int .u64 (a : Int)), (1, .int .u64 (u : Int)), (2, .int .u64 (d : Int)), (3, .bool true), (8, .bool false), (9, .int .u64 (((partV a u d true) : Nat) : Int)), (10, .int .i64 (((partE a u d true) : Nat) : Int)), (11, .slice A101 (ndg (((a * u) / d) + 1)) c102), (12, .slice A51 (ndg ((a * u) % d)) c52), (16, .bool false), (25, .bool false), (34, .bool false), (62, .bool true)] (by kernel_rfl) rfl ?_
        refine GL.k rfl hK59 (fun _ _ h => h) ?_
        refine G.seqK fun K109 hK110 => ?_
        refine G.seqK fun K111 hK112 => ?_
        refine G.region ?_
        refine GL.run (j := 2) 2 [0, 1, 2, 3, 8, 9, 10, 11, 12, 16, 25, 34, 62, 66, 67] [(0, .int .u64 (a : Int)), (1, .int .u64 (u : Int)), (2, .int .u64 (d : Int)), (3, .bool true), (8, .bool false), (9, .int .u64 (((partV a u d true) : Nat) : Int)), (10, .int .i64 (((partE a u d true) : Nat) : Int)), (11, .slice A101 (ndg (((a * u) / d) + 1)) c102), (12, .slice A51 (ndg ((a * u) % d)) c52), (16, .bool false), (25, .bool false), (34, .bool false), (62, .bool true), (66, .slice A101 (ndg (((a * u) / d) + 1)) c102), (67, .agg #[.int .u64 4611686018427387904, .int .u64 0, .int .u64 0, .int .u64 0])] (by kernel_rfl) rfl ?_
        have hN118 : ndg 4611686018427387904 ≤ 4 := ndg_K (by decide)
        refine GL.call (j := 3) (Of_calls_n 4611686018427387904 (by decide) w105) (by kernel_rfl) rfl (fun e_ w117 hR => ?_)
        obtain ⟨A113, c114, rfl, H116⟩ := hR
        have H115 : Hp w [] [.row A25 (ndg a) c26 22 1 (dg (digs a)), .row A31 (ndg u) c32 22 1 (dg (digs u)), .row A37 (ndg (a * u)) c38 22 1 (dg (digs (a * u))), .row A43 (ndg d) c44 22 1 (dg (digs d)), .row A51 (ndg ((a * u) % d)) c52 22 1 (dg (digs ((a * u) % d))), .row A49 (ndg ((a * u) / d)) c50 22 1 (dg (digs ((a * u) / d))), .row (some ⟨p97, 0, none⟩) 1 1 22 1 (dg [1]), .row A101 (ndg (((a * u) / d) + 1)) c102 22 1 (dg (digs (((a * u) / d) + 1))), .row A113 (ndg 4611686018427387904) c114 22 1 (dg (digs 4611686018427387904))] w117 := H103.callNew H116
        refine ⟨_, rfl, [0, 1, 2, 3, 8, 9, 10, 11, 12, 16, 25, 34, 62, 66, 68], [(0, .int .u64 (a : Int)), (1, .int .u64 (u : Int)), (2, .int .u64 (d : Int)), (3, .bool true), (8, .bool false), (9, .int .u64 (((partV a u d true) : Nat) : Int)), (10, .int .i64 (((partE a u d true) : Nat) : Int)), (11, .slice A101 (ndg (((a * u) / d) + 1)) c102), (12, .slice A51 (ndg ((a * u) % d)) c52), (16, .bool false), (25, .bool false), (34, .bool false), (62, .bool true), (66, .slice A101 (ndg (((a * u) / d) + 1)) c102), (68, .slice A113 (ndg 4611686018427387904) c114)], by kernel_rfl, ?_⟩
        refine GL.call (j := 4) (CmpN_calls (((a * u) / d) + 1) 4611686018427387904 A101 A113 c102 c114 w117 (H115.rdRow 7 rfl) (H115.rdRow 8 rfl) (Nat.le_trans hN108 (by decide)) (Nat.le_trans hN118 (by decide))) (by kernel_rfl) rfl (fun e_ w119 hR => ?_)
        obtain ⟨rfl, H121⟩ := hR
        have H120 : Hp w [] [.row A25 (ndg a) c26 22 1 (dg (digs a)), .row A31 (ndg u) c32 22 1 (dg (digs u)), .row A37 (ndg (a * u)) c38 22 1 (dg (digs (a * u))), .row A43 (ndg d) c44 22 1 (dg (digs d)), .row A51 (ndg ((a * u) % d)) c52 22 1 (dg (digs ((a * u) % d))), .row A49 (ndg ((a * u) / d)) c50 22 1 (dg (digs ((a * u) / d))), .row (some ⟨p97, 0, none⟩) 1 1 22 1 (dg [1]), .row A101 (ndg (((a * u) / d) + 1)) c102 22 1 (dg (digs (((a * u) / d) + 1))), .row A113 (ndg 4611686018427387904) c114 22 1 (dg (digs 4611686018427387904))] w119 := H115.callNil H121
        refine ⟨_, rfl, [0, 1, 2, 3, 8, 9, 10, 11, 12, 16, 25, 34, 62, 69], [(0, .int .u64 (a : Int)), (1, .int .u64 (u : Int)), (2, .int .u64 (d : Int)), (3, .bool true), (8, .bool false), (9, .int .u64 (((partV a u d true) : Nat) : Int)), (10, .int .i64 (((partE a u d true) : Nat) : Int)), (11, .slice A101 (ndg (((a * u) / d) + 1)) c102), (12, .slice A51 (ndg ((a * u) % d)) c52), (16, .bool false), (25, .bool false), (34, .bool false), (62, .bool true), (69, .int .i64 (cmpN (((a * u) / d) + 1) 4611686018427387904))], by kernel_rfl, ?_⟩
        refine GL.run (j := 5) 1 [0, 1, 2, 3, 8, 9, 10, 11, 12, 16, 25, 34, 62, 70] [(0, .int .u64 (a : Int)), (1, .int .u64 (u : Int)), (2, .int .u64 (d : Int)), (3, .bool true), (8, .bool false), (9, .int .u64 (((partV a u d true) : Nat) : Int)), (10, .int .i64 (((partE a u d true) : Nat) : Int)), (11, .slice A101 (ndg (((a * u) / d) + 1)) c102), (12, .slice A51 (ndg ((a * u) % d)) c52), (16, .bool false), (25, .bool false), (34, .bool false), (62, .bool true), (70, .bool (decide (0 < (cmpN (((a * u) / d) + 1) 4611686018427387904))))] (by kernel_rfl) rfl ?_
        refine GL.k rfl hK112 (fun _ _ h => h) ?_
        cases hb122 : (decide (0 < (cmpN (((a * u) / d) + 1) 4611686018427387904)))
        · skip
          have hb122f := of_decide_eq_false hb122
          have hov : ¬ 4611686018427387904 < (((a * u) / d) + 1) := fun h => hb122f (cmp_gt0.2 h)
          have hlw := low_word (q := (((a * u) / d) + 1)) (by omega)
          refine G.no rfl ?_
          refine G.skipK hK110 (fun _ _ h => h) ?_
          refine G.seqK fun K123 hK124 => ?_
          refine G.region ?_
          refine GL.run (j := 1) 1 [0, 1, 2, 3, 8, 9, 10, 11, 12, 16, 25, 34, 62, 70, 78] [(0, .int .u64 (a : Int)), (1, .int .u64 (u : Int)), (2, .int .u64 (d : Int)), (3, .bool true), (8, .bool false), (9, .int .u64 (((partV a u d true) : Nat) : Int)), (10, .int .i64 (((partE a u d true) : Nat) : Int)), (11, .slice A101 (ndg (((a * u) / d) + 1)) c102), (12, .slice A51 (ndg ((a * u) % d)) c52), (16, .bool false), (25, .bool false), (34, .bool false), (62, .bool true), (70, .bool false), (78, .slice A101 (ndg (((a * u) / d) + 1)) c102)] (by kernel_rfl) rfl ?_
          refine GL.call (j := 2) (WordsN_calls (((a * u) / d) + 1) A101 c102 w119 (H120.rdRow 7 rfl) (Nat.le_trans hN108 (by decide))) (by kernel_rfl) rfl (fun e_ w125 hR => ?_)
          obtain ⟨rfl, H127⟩ := hR
          have H126 : Hp w [] [.row A25 (ndg a) c26 22 1 (dg (digs a)), .row A31 (ndg u) c32 22 1 (dg (digs u)), .row A37 (ndg (a * u)) c38 22 1 (dg (digs (a * u))), .row A43 (ndg d) c44 22 1 (dg (digs d)), .row A51 (ndg ((a * u) % d)) c52 22 1 (dg (digs ((a * u) % d))), .row A49 (ndg ((a * u) / d)) c50 22 1 (dg (digs ((a * u) / d))), .row (some ⟨p97, 0, none⟩) 1 1 22 1 (dg [1]), .row A101 (ndg (((a * u) / d) + 1)) c102 22 1 (dg (digs (((a * u) / d) + 1))), .row A113 (ndg 4611686018427387904) c114 22 1 (dg (digs 4611686018427387904))] w125 := H120.callNil H127
          refine ⟨_, rfl, [0, 1, 2, 3, 8, 9, 10, 11, 12, 16, 25, 34, 62, 70, 79], [(0, .int .u64 (a : Int)), (1, .int .u64 (u : Int)), (2, .int .u64 (d : Int)), (3, .bool true), (8, .bool false), (9, .int .u64 (((partV a u d true) : Nat) : Int)), (10, .int .i64 (((partE a u d true) : Nat) : Int)), (11, .slice A101 (ndg (((a * u) / d) + 1)) c102), (12, .slice A51 (ndg ((a * u) % d)) c52), (16, .bool false), (25, .bool false), (34, .bool false), (62, .bool true), (70, .bool false), (79, .tuple #[.agg #[.int .u64 (wd ((((a * u) / d) + 1) % K4) 0 : Int), .int .u64 (wd ((((a * u) / d) + 1) % K4) 1 : Int), .int .u64 (wd ((((a * u) / d) + 1) % K4) 2 : Int), .int .u64 (wd ((((a * u) / d) + 1) % K4) 3 : Int)], .bool (decide (K4 ≤ (((a * u) / d) + 1)))])], by kernel_rfl, ?_⟩
          refine GL.run (j := 5) 3 [0, 1, 2, 3, 8, 9, 10, 11, 12, 16, 25, 34, 62, 70, 80, 81] [(0, .int .u64 (a : Int)), (1, .int .u64 (u : Int)), (2, .int .u64 (d : Int)), (3, .bool true), (8, .bool false), (9, .int .u64 (((partV a u d true) : Nat) : Int)), (10, .int .i64 (((partE a u d true) : Nat) : Int)), (11, .slice A101 (ndg (((a * u) / d) + 1)) c102), (12, .slice A51 (ndg ((a * u) % d)) c52), (16, .bool false), (25, .bool false), (34, .bool false), (62, .bool true), (70, .bool false), (80, .agg #[.int .u64 (wd ((((a * u) / d) + 1) % K4) 0 : Int), .int .u64 (wd ((((a * u) / d) + 1) % K4) 1 : Int), .int .u64 (wd ((((a * u) / d) + 1) % K4) 2 : Int), .int .u64 (wd ((((a * u) / d) + 1) % K4) 3 : Int)]), (81, .bool (decide (K4 ≤ (((a * u) / d) + 1))))] (by kernel_rfl) rfl ?_
          obtain ⟨p128, w129, r130, H131⟩ := H126.alloc (P := Try.prog) 35 [.int .u64 0, .int .u64 0, .int .u64 0, .int .u64 0] (by kernel_rfl)
          have H131 : Hp w [] [.row A25 (ndg a) c26 22 1 (dg (digs a)), .row A31 (ndg u) c32 22 1 (dg (digs u)), .row A37 (ndg (a * u)) c38 22 1 (dg (digs (a * u))), .row A43 (ndg d) c44 22 1 (dg (digs d)), .row A51 (ndg ((a * u) % d)) c52 22 1 (dg (digs ((a * u) % d))), .row A49 (ndg ((a * u) / d)) c50 22 1 (dg (digs ((a * u) / d))), .row (some ⟨p97, 0, none⟩) 1 1 22 1 (dg [1]), .row A101 (ndg (((a * u) / d) + 1)) c102 22 1 (dg (digs (((a * u) / d) + 1))), .row A113 (ndg 4611686018427387904) c114 22 1 (dg (digs 4611686018427387904)), .blk p128 [.int .u64 0, .int .u64 0, .int .u64 0, .int .u64 0] 35] w129 := H131
          refine GL.sem (j := 6) (r130) [0, 1, 2, 3, 8, 9, 10, 11, 12, 13, 16, 25, 34, 62, 70, 80, 81] [(0, .int .u64 (a : Int)), (1, .int .u64 (u : Int)), (2, .int .u64 (d : Int)), (3, .bool true), (8, .bool false), (9, .int .u64 (((partV a u d true) : Nat) : Int)), (10, .int .i64 (((partE a u d true) : Nat) : Int)), (11, .slice A101 (ndg (((a * u) / d) + 1)) c102), (12, .slice A51 (ndg ((a * u) % d)) c52), (13, .pointer (some ⟨p128, 0, none⟩)), (16, .bool false), (25, .bool false), (34, .bool false), (62, .bool true), (70, .bool false), (80, .agg #[.int .u64 (wd ((((a * u) / d) + 1) % K4) 0 : Int), .int .u64 (wd ((((a * u) / d) + 1) % K4) 1 : Int), .int .u64 (wd ((((a * u) / d) + 1) % K4) 2 : Int), .int .u64 (wd ((((a * u) / d) + 1) % K4) 3 : Int)]), (81, .bool (decide (K4 ≤ (((a * u) / d) + 1))))] (by kernel_rfl) (by kernel_rfl) rfl ?_
          obtain ⟨w132, r133, H134⟩ := H131.stA (P := Try.prog) (o := 0) (vs := [.int .u64 (wd ((((a * u) / d) + 1) % K4) 0 : Int), .int .u64 (wd ((((a * u) / d) + 1) % K4) 1 : Int), .int .u64 (wd ((((a * u) / d) + 1) % K4) 2 : Int), .int .u64 (wd ((((a * u) / d) + 1) % K4) 3 : Int)]) (ty := 35) (m := 4) 9 rfl (by kernel_rfl) rfl (by simp) (by simp [Value.oneCell'])
          have H134 : Hp w [] [.row A25 (ndg a) c26 22 1 (dg (digs a)), .row A31 (ndg u) c32 22 1 (dg (digs u)), .row A37 (ndg (a * u)) c38 22 1 (dg (digs (a * u))), .row A43 (ndg d) c44 22 1 (dg (digs d)), .row A51 (ndg ((a * u) % d)) c52 22 1 (dg (digs ((a * u) % d))), .row A49 (ndg ((a * u) / d)) c50 22 1 (dg (digs ((a * u) / d))), .row (some ⟨p97, 0, none⟩) 1 1 22 1 (dg [1]), .row A101 (ndg (((a * u) / d) + 1)) c102 22 1 (dg (digs (((a * u) / d) + 1))), .row A113 (ndg 4611686018427387904) c114 22 1 (dg (digs 4611686018427387904)), .blk p128 [.int .u64 (wd ((((a * u) / d) + 1) % K4) 0 : Int), .int .u64 (wd ((((a * u) / d) + 1) % K4) 1 : Int), .int .u64 (wd ((((a * u) / d) + 1) % K4) 2 : Int), .int .u64 (wd ((((a * u) / d) + 1) % K4) 3 : Int)] 35] w132 := H134
          refine GL.semU (j := 7) r133 [0, 1, 2, 3, 8, 9, 10, 11, 12, 13, 16, 25, 34, 62, 70, 81] [(0, .int .u64 (a : Int)), (1, .int .u64 (u : Int)), (2, .int .u64 (d : Int)), (3, .bool true), (8, .bool false), (9, .int .u64 (((partV a u d true) : Nat) : Int)), (10, .int .i64 (((partE a u d true) : Nat) : Int)), (11, .slice A101 (ndg (((a * u) / d) + 1)) c102), (12, .slice A51 (ndg ((a * u) % d)) c52), (13, .pointer (some ⟨p128, 0, none⟩)), (16, .bool false), (25, .bool false), (34, .bool false), (62, .bool true), (70, .bool false), (81, .bool (decide (K4 ≤ (((a * u) / d) + 1))))] (by kernel_rfl) rfl rfl rfl ?_
          refine GL.run (j := 8) 1 [0, 1, 2, 3, 8, 9, 10, 11, 12, 13, 16, 25, 34, 62, 70] [(0, .int .u64 (a : Int)), (1, .int .u64 (u : Int)), (2, .int .u64 (d : Int)), (3, .bool true), (8, .bool false), (9, .int .u64 (((partV a u d true) : Nat) : Int)), (10, .int .i64 (((partE a u d true) : Nat) : Int)), (11, .slice A101 (ndg (((a * u) / d) + 1)) c102), (12, .slice A51 (ndg ((a * u) % d)) c52), (13, .pointer (some ⟨p128, 0, none⟩)), (16, .bool false), (25, .bool false), (34, .bool false), (62, .bool true), (70, .bool false)] (by kernel_rfl) rfl ?_
          refine GL.k rfl hK124 (fun _ _ h => h) ?_
          refine G.seqK fun K135 hK136 => ?_
          refine G.region ?_
          refine GL.run (j := 3) 3 [0, 1, 2, 3, 8, 9, 10, 11, 12, 13, 16, 25, 34, 62, 70, 84] [(0, .int .u64 (a : Int)), (1, .int .u64 (u : Int)), (2, .int .u64 (d : Int)), (3, .bool true), (8, .bool false), (9, .int .u64 (((partV a u d true) : Nat) : Int)), (10, .int .i64 (((partE a u d true) : Nat) : Int)), (11, .slice A101 (ndg (((a * u) / d) + 1)) c102), (12, .slice A51 (ndg ((a * u) % d)) c52), (13, .pointer (some ⟨p128, 0, none⟩)), (16, .bool false), (25, .bool false), (34, .bool false), (62, .bool true), (70, .bool false), (84, .bool ((((partE a u d true) : Nat) : Int) == 0))] (by kernel_rfl) rfl ?_
          cases hb137 : ((((partE a u d true) : Nat) : Int) == 0)
          · skip
            have hb137f := ne_of_beq_false hb137
            refine GL.run (j := 9) 6 [0, 1, 2, 3, 8, 9, 10, 11, 12, 13, 16, 25, 34, 62, 70] [(0, .int .u64 (a : Int)), (1, .int .u64 (u : Int)), (2, .int .u64 (d : Int)), (3, .bool true), (8, .bool false), (9, .int .u64 (((partV a u d true) : Nat) : Int)), (10, .int .i64 (((partE a u d true) : Nat) : Int)), (11, .slice A101 (ndg (((a * u) / d) + 1)) c102), (12, .slice A51 (ndg ((a * u) % d)) c52), (13, .pointer (some ⟨p128, 0, none⟩)), (16, .bool false), (25, .bool false), (34, .bool false), (62, .bool true), (70, .bool false)] (by kernel_rfl) rfl ?_
            refine GL.k rfl hK136 (fun _ _ h => h) ?_
            refine G.ret ?_
            intro F_ hF_ hM_
            refine hRet _ _ (bodyPost_1 rfl (RV.tmp rfl) ?_ F_ hF_ hM_)
            exfalso
            omega
          · skip
            have hb137f := eq_of_beq hb137
            refine GL.run (j := 5) 2 [0, 1, 2, 3, 8, 9, 10, 11, 12, 13, 16, 25, 34, 62, 70, 84, 85, 86] [(0, .int .u64 (a : Int)), (1, .int .u64 (u : Int)), (2, .int .u64 (d : Int)), (3, .bool true), (8, .bool false), (9, .int .u64 (((partV a u d true) : Nat) : Int)), (10, .int .i64 (((partE a u d true) : Nat) : Int)), (11, .slice A101 (ndg (((a * u) / d) + 1)) c102), (12, .slice A51 (ndg ((a * u) % d)) c52), (13, .pointer (some ⟨p128, 0, none⟩)), (16, .bool false), (25, .bool false), (34, .bool false), (62, .bool true), (70, .bool false), (84, .bool true), (85, .int .u64 (((partV a u d true) : Nat) : Int)), (86, .pointer (some ⟨p128, 0, none⟩))] (by kernel_rfl) rfl ?_
            refine GL.sem (j := 6) (H134.ld (o := 0) (ty := 22) (v := .int .u64 (wd ((((a * u) / d) + 1) % K4) 0 : Int)) 9 rfl (by kernel_rfl) rfl) [0, 1, 2, 3, 8, 9, 10, 11, 12, 13, 16, 25, 34, 62, 70, 84, 85, 87] [(0, .int .u64 (a : Int)), (1, .int .u64 (u : Int)), (2, .int .u64 (d : Int)), (3, .bool true), (8, .bool false), (9, .int .u64 (((partV a u d true) : Nat) : Int)), (10, .int .i64 (((partE a u d true) : Nat) : Int)), (11, .slice A101 (ndg (((a * u) / d) + 1)) c102), (12, .slice A51 (ndg ((a * u) % d)) c52), (13, .pointer (some ⟨p128, 0, none⟩)), (16, .bool false), (25, .bool false), (34, .bool false), (62, .bool true), (70, .bool false), (84, .bool true), (85, .int .u64 (((partV a u d true) : Nat) : Int)), (87, .int .u64 (wd ((((a * u) / d) + 1) % K4) 0 : Int))] (by kernel_rfl) (by kernel_rfl) rfl ?_
            refine GL.run (j := 9) 3 [0, 1, 2, 3, 8, 9, 10, 11, 12, 13, 16, 25, 34, 62, 70] [(0, .int .u64 (a : Int)), (1, .int .u64 (u : Int)), (2, .int .u64 (d : Int)), (3, .bool true), (8, .bool ((((partV a u d true) : Nat) : Int) == (wd ((((a * u) / d) + 1) % K4) 0 : Int))), (9, .int .u64 (((partV a u d true) : Nat) : Int)), (10, .int .i64 (((partE a u d true) : Nat) : Int)), (11, .slice A101 (ndg (((a * u) / d) + 1)) c102), (12, .slice A51 (ndg ((a * u) % d)) c52), (13, .pointer (some ⟨p128, 0, none⟩)), (16, .bool false), (25, .bool false), (34, .bool false), (62, .bool true), (70, .bool false)] (by kernel_rfl) rfl ?_
            refine GL.k rfl hK136 (fun _ _ h => h) ?_
            refine G.ret ?_
            intro F_ hF_ hM_
            refine hRet _ _ (bodyPost_1 rfl (RV.tmp rfl) ?_ F_ hF_ hM_)
            cases hb138 : ((((partV a u d true) : Nat) : Int) == (wd ((((a * u) / d) + 1) % K4) 0 : Int))
            · skip
              have hb138f := ne_of_beq_false hb138
              exfalso
              omega
            · skip
              have hb138f := eq_of_beq hb138
              exact ⟨rfl, H134.sub (List.nil_sublist _)⟩
        · skip
          have hb122f := of_decide_eq_true hb122
          have hov : 4611686018427387904 < (((a * u) / d) + 1) := cmp_gt0.1 hb122f
          refine G.yes rfl ?_
          refine G.seqK fun K139 hK140 => ?_
          refine G.region ?_
          refine GL.run (j := 3) 3 [0, 1, 2, 3, 8, 9, 10, 11, 12, 16, 25, 34, 62, 70, 73] [(0, .int .u64 (a : Int)), (1, .int .u64 (u : Int)), (2, .int .u64 (d : Int)), (3, .bool true), (8, .bool false), (9, .int .u64 (((partV a u d true) : Nat) : Int)), (10, .int .i64 (((partE a u d true) : Nat) : Int)), (11, .slice A101 (ndg (((a * u) / d) + 1)) c102), (12, .slice A51 (ndg ((a * u) % d)) c52), (16, .bool false), (25, .bool false), (34, .bool false), (62, .bool true), (70, .bool true), (73, .bool ((((partE a u d true) : Nat) : Int) == 4))] (by kernel_rfl) rfl ?_
          cases hb141 : ((((partE a u d true) : Nat) : Int) == 4)
          · skip
            have hb141f := ne_of_beq_false hb141
            refine GL.run (j := 7) 4 [0, 1, 2, 3, 8, 9, 10, 11, 12, 16, 25, 34, 62, 70] [(0, .int .u64 (a : Int)), (1, .int .u64 (u : Int)), (2, .int .u64 (d : Int)), (3, .bool true), (8, .bool false), (9, .int .u64 (((partV a u d true) : Nat) : Int)), (10, .int .i64 (((partE a u d true) : Nat) : Int)), (11, .slice A101 (ndg (((a * u) / d) + 1)) c102), (12, .slice A51 (ndg ((a * u) % d)) c52), (16, .bool false), (25, .bool false), (34, .bool false), (62, .bool true), (70, .bool true)] (by kernel_rfl) rfl ?_
            refine GL.k rfl hK140 (fun _ _ h => h) ?_
            refine G.ret ?_
            intro F_ hF_ hM_
            refine hRet _ _ (bodyPost_1 rfl (RV.tmp rfl) ?_ F_ hF_ hM_)
            exfalso
            omega
          · skip
            have hb141f := eq_of_beq hb141
            refine GL.run (j := 7) 4 [0, 1, 2, 3, 8, 9, 10, 11, 12, 16, 25, 34, 62, 70] [(0, .int .u64 (a : Int)), (1, .int .u64 (u : Int)), (2, .int .u64 (d : Int)), (3, .bool true), (8, .bool ((((partV a u d true) : Nat) : Int) == 0)), (9, .int .u64 (((partV a u d true) : Nat) : Int)), (10, .int .i64 (((partE a u d true) : Nat) : Int)), (11, .slice A101 (ndg (((a * u) / d) + 1)) c102), (12, .slice A51 (ndg ((a * u) % d)) c52), (16, .bool false), (25, .bool false), (34, .bool false), (62, .bool true), (70, .bool true)] (by kernel_rfl) rfl ?_
            refine GL.k rfl hK140 (fun _ _ h => h) ?_
            refine G.ret ?_
            intro F_ hF_ hM_
            refine hRet _ _ (bodyPost_1 rfl (RV.tmp rfl) ?_ F_ hF_ hM_)
            cases hb142 : ((((partV a u d true) : Nat) : Int) == 0)
            · skip
              have hb142f := ne_of_beq_false hb142
              exfalso
              omega
            · skip
              have hb142f := eq_of_beq hb142
              exact ⟨rfl, H120.sub (List.nil_sublist _)⟩
    · skip
      have hb22f := eq_of_beq hb22
      refine G.yes rfl ?_
      refine G.seqK fun K143 hK144 => ?_
      refine G.region ?_
      refine GL.run (j := 3) 3 [0, 1, 2, 3, 8, 9, 10, 16, 25, 34, 39] [(0, .int .u64 (a : Int)), (1, .int .u64 (u : Int)), (2, .int .u64 (d : Int)), (3, .bool true), (8, .bool false), (9, .int .u64 (((partV a u d true) : Nat) : Int)), (10, .int .i64 (((partE a u d true) : Nat) : Int)), (16, .bool false), (25, .bool false), (34, .bool true), (39, .bool ((((partE a u d true) : Nat) : Int) == 5))] (by kernel_rfl) rfl ?_
      cases hb145 : ((((partE a u d true) : Nat) : Int) == 5)
      · skip
        have hb145f := ne_of_beq_false hb145
        refine GL.run (j := 7) 4 [0, 1, 2, 3, 8, 9, 10, 16, 25, 34] [(0, .int .u64 (a : Int)), (1, .int .u64 (u : Int)), (2, .int .u64 (d : Int)), (3, .bool true), (8, .bool false), (9, .int .u64 (((partV a u d true) : Nat) : Int)), (10, .int .i64 (((partE a u d true) : Nat) : Int)), (16, .bool false), (25, .bool false), (34, .bool true)] (by kernel_rfl) rfl ?_
        refine GL.k rfl hK144 (fun _ _ h => h) ?_
        refine G.ret ?_
        intro F_ hF_ hM_
        refine hRet _ _ (bodyPost_1 rfl (RV.tmp rfl) ?_ F_ hF_ hM_)
        exfalso
        omega
      · skip
        have hb145f := eq_of_beq hb145
        refine GL.run (j := 7) 4 [0, 1, 2, 3, 8, 9, 10, 16, 25, 34] [(0, .int .u64 (a : Int)), (1, .int .u64 (u : Int)), (2, .int .u64 (d : Int)), (3, .bool true), (8, .bool ((((partV a u d true) : Nat) : Int) == 0)), (9, .int .u64 (((partV a u d true) : Nat) : Int)), (10, .int .i64 (((partE a u d true) : Nat) : Int)), (16, .bool false), (25, .bool false), (34, .bool true)] (by kernel_rfl) rfl ?_
        refine GL.k rfl hK144 (fun _ _ h => h) ?_
        refine G.ret ?_
        intro F_ hF_ hM_
        refine hRet _ _ (bodyPost_1 rfl (RV.tmp rfl) ?_ F_ hF_ hM_)
        cases hb146 : ((((partV a u d true) : Nat) : Int) == 0)
        · skip
          have hb146f := ne_of_beq_false hb146
          exfalso
          omega
        · skip
          have hb146f := eq_of_beq hb146
          exact ⟨rfl, H13.sub (List.nil_sublist _)⟩
  · skip
    have hb19f := of_decide_eq_true hb19
    refine G.yes rfl ?_
    refine G.seqK fun K147 hK148 => ?_
    refine G.region ?_
    refine GL.run (j := 3) 3 [0, 1, 2, 3, 8, 9, 10, 16, 25, 30] [(0, .int .u64 (a : Int)), (1, .int .u64 (u : Int)), (2, .int .u64 (d : Int)), (3, .bool true), (8, .bool false), (9, .int .u64 (((partV a u d true) : Nat) : Int)), (10, .int .i64 (((partE a u d true) : Nat) : Int)), (16, .bool false), (25, .bool true), (30, .bool ((((partE a u d true) : Nat) : Int) == 1))] (by kernel_rfl) rfl ?_
    cases hb149 : ((((partE a u d true) : Nat) : Int) == 1)
    · skip
      have hb149f := ne_of_beq_false hb149
      refine GL.run (j := 7) 4 [0, 1, 2, 3, 8, 9, 10, 16, 25] [(0, .int .u64 (a : Int)), (1, .int .u64 (u : Int)), (2, .int .u64 (d : Int)), (3, .bool true), (8, .bool false), (9, .int .u64 (((partV a u d true) : Nat) : Int)), (10, .int .i64 (((partE a u d true) : Nat) : Int)), (16, .bool false), (25, .bool true)] (by kernel_rfl) rfl ?_
      refine GL.k rfl hK148 (fun _ _ h => h) ?_
      refine G.ret ?_
      intro F_ hF_ hM_
      refine hRet _ _ (bodyPost_1 rfl (RV.tmp rfl) ?_ F_ hF_ hM_)
      exfalso
      omega
    · skip
      have hb149f := eq_of_beq hb149
      refine GL.run (j := 7) 4 [0, 1, 2, 3, 8, 9, 10, 16, 25] [(0, .int .u64 (a : Int)), (1, .int .u64 (u : Int)), (2, .int .u64 (d : Int)), (3, .bool true), (8, .bool ((((partV a u d true) : Nat) : Int) == 0)), (9, .int .u64 (((partV a u d true) : Nat) : Int)), (10, .int .i64 (((partE a u d true) : Nat) : Int)), (16, .bool false), (25, .bool true)] (by kernel_rfl) rfl ?_
      refine GL.k rfl hK148 (fun _ _ h => h) ?_
      refine G.ret ?_
      intro F_ hF_ hM_
      refine hRet _ _ (bodyPost_1 rfl (RV.tmp rfl) ?_ F_ hF_ hM_)
      cases hb150 : ((((partV a u d true) : Nat) : Int) == 0)
      · skip
        have hb150f := ne_of_beq_false hb150
        exfalso
        omega
      · skip
        have hb150f := eq_of_beq hb150
        exact ⟨rfl, H13.sub (List.nil_sublist _)⟩
theorem MoneyParts_false (a u d : Nat) (ha : a < K) (hu : u < K) (hd : d < K) (w : World) : Calls Try.prog 4 #[.int .u64 (a : Int), .int .u64 (u : Int), .int .u64 (d : Int), .bool false] w fun e w' => e = .returned (.bool true) ∧ Hp w [] [] w' := by
  have hMX : MX = 4611686018427387904 := rfl
  have hK0 : K = 18446744073709551616 := rfl
  have hK40 : K4 = 115792089237316195423570985008687907853269984665640564039457584007913129639936 := rfl
  have R := partE_cases a u d false
  have Rv := part_any a u d false
  have hQ := partQ_down a u d
  refine calls_G (args := [.int .u64 (a : Int), .int .u64 (u : Int), .int .u64 (d : Int), .bool false]) Try.func4 rfl Try.ntmps4 rfl ?_
  intro Q0 hRet hNor hPan
  have H := Hp.start w
  have H : Hp w [] [] w := H
  refine G.seqK fun K1 hK2 => ?_
  refine G.region ?_
  refine GL.run (j := 1) 1 [0, 1, 2, 3, 8] [(0, .int .u64 (a : Int)), (1, .int .u64 (u : Int)), (2, .int .u64 (d : Int)), (3, .bool false), (8, .bool false)] (by kernel_rfl) rfl ?_
  refine GL.k rfl hK2 (fun _ _ h => h) ?_
  refine G.seqK fun K3 hK4 => ?_
  refine G.seqK fun K5 hK6 => ?_
  refine G.region ?_
  refine GL.call (j := 1) (lives_calls w) (by kernel_rfl) rfl (fun e_ w7 hR => ?_)
  obtain ⟨rfl, H9⟩ := hR
  have H8 : Hp w [] [] w7 := H.callNil H9
  refine ⟨_, rfl, [0, 1, 2, 3, 8, 15], [(0, .int .u64 (a : Int)), (1, .int .u64 (u : Int)), (2, .int .u64 (d : Int)), (3, .bool false), (8, .bool false), (15, .bool true)], by kernel_rfl, ?_⟩
  refine GL.run (j := 2) 1 [0, 1, 2, 3, 8, 16] [(0, .int .u64 (a : Int)), (1, .int .u64 (u : Int)), (2, .int .u64 (d : Int)), (3, .bool false), (8, .bool false), (16, .bool false)] (by kernel_rfl) rfl ?_
  refine GL.k rfl hK6 (fun _ _ h => h) ?_
  refine G.no rfl ?_
  refine G.skipK hK4 (fun _ _ h => h) ?_
  refine G.seqK fun K10 hK11 => ?_
  refine G.region ?_
  refine GL.run (j := 4) 4 [0, 1, 2, 3, 8, 16, 18, 19, 20, 21] [(0, .int .u64 (a : Int)), (1, .int .u64 (u : Int)), (2, .int .u64 (d : Int)), (3, .bool false), (8, .bool false), (16, .bool false), (18, .int .u64 (a : Int)), (19, .int .u64 (u : Int)), (20, .int .u64 (d : Int)), (21, .bool false)] (by kernel_rfl) rfl ?_
  refine GL.call (j := 5) (Part_downA a u d ha hu hd w7) (by kernel_rfl) rfl (fun e_ w12 hR => ?_)
  obtain ⟨rfl, H14⟩ := hR
  have H13 : Hp w [] [] w12 := H8.callNil H14
  refine ⟨_, rfl, [0, 1, 2, 3, 8, 16, 22], [(0, .int .u64 (a : Int)), (1, .int .u64 (u : Int)), (2, .int .u64 (d : Int)), (3, .bool false), (8, .bool false), (16, .bool false), (22, .tuple #[.int .u64 (((partV a u d false) : Nat) : Int), .int .i64 (((partE a u d false) : Nat) : Int)])], by kernel_rfl, ?_⟩
  refine GL.run (j := 10) 5 [0, 1, 2, 3, 8, 9, 10, 16] [(0, .int .u64 (a : Int)), (1, .int .u64 (u : Int)), (2, .int .u64 (d : Int)), (3, .bool false), (8, .bool false), (9, .int .u64 (((partV a u d false) : Nat) : Int)), (10, .int .i64 (((partE a u d false) : Nat) : Int)), (16, .bool false)] (by kernel_rfl) rfl ?_
  refine GL.k rfl hK11 (fun _ _ h => h) ?_
  refine G.seqK fun K15 hK16 => ?_
  refine G.block ?_
  refine G.seqK fun K17 hK18 => ?_
  refine G.region ?_
  refine GL.run (j := 3) 3 [0, 1, 2, 3, 8, 9, 10, 16, 25] [(0, .int .u64 (a : Int)), (1, .int .u64 (u : Int)), (2, .int .u64 (d : Int)), (3, .bool false), (8, .bool false), (9, .int .u64 (((partV a u d false) : Nat) : Int)), (10, .int .i64 (((partE a u d false) : Nat) : Int)), (16, .bool false), (25, .bool (decide (4611686018427387904 < (a : Int))))] (by kernel_rfl) rfl ?_
  refine GL.k rfl hK18 (fun _ _ h => h) ?_
  cases hb19 : (decide (4611686018427387904 < (a : Int)))
  · skip
    have hb19f := of_decide_eq_false hb19
    refine G.no rfl ?_
    refine G.seqK fun K20 hK21 => ?_
    refine G.region ?_
    refine GL.run (j := 3) 3 [0, 1, 2, 3, 8, 9, 10, 16, 25, 34] [(0, .int .u64 (a : Int)), (1, .int .u64 (u : Int)), (2, .int .u64 (d : Int)), (3, .bool false), (8, .bool false), (9, .int .u64 (((partV a u d false) : Nat) : Int)), (10, .int .i64 (((partE a u d false) : Nat) : Int)), (16, .bool false), (25, .bool false), (34, .bool ((d : Int) == 0))] (by kernel_rfl) rfl ?_
    refine GL.k rfl hK21 (fun _ _ h => h) ?_
    cases hb22 : ((d : Int) == 0)
    · skip
      have hb22f := ne_of_beq_false hb22
      refine G.no rfl ?_
      refine G.skipK hK16 (fun _ _ h => h) ?_
      refine G.seqK fun K23 hK24 => ?_
      refine G.region ?_
      refine GL.run (j := 2) 2 [0, 1, 2, 3, 8, 9, 10, 16, 25, 34, 45] [(0, .int .u64 (a : Int)), (1, .int .u64 (u : Int)), (2, .int .u64 (d : Int)), (3, .bool false), (8, .bool false), (9, .int .u64 (((partV a u d false) : Nat) : Int)), (10, .int .i64 (((partE a u d false) : Nat) : Int)), (16, .bool false), (25, .bool false), (34, .bool false), (45, .agg #[.int .u64 (a : Int), .int .u64 0, .int .u64 0, .int .u64 0])] (by kernel_rfl) rfl ?_
      have hN30 : ndg a ≤ 4 := ndg_K ha
      refine GL.call (j := 3) (Of1_calls_n a ha w12) (by kernel_rfl) rfl (fun e_ w29 hR => ?_)
      obtain ⟨A25, c26, rfl, H28⟩ := hR
      have H27 : Hp w [] [.row A25 (ndg a) c26 22 1 (dg (digs a))] w29 := H13.callNew H28
      refine ⟨_, rfl, [0, 1, 2, 3, 8, 9, 10, 16, 25, 34, 46], [(0, .int .u64 (a : Int)), (1, .int .u64 (u : Int)), (2, .int .u64 (d : Int)), (3, .bool false), (8, .bool false), (9, .int .u64 (((partV a u d false) : Nat) : Int)), (10, .int .i64 (((partE a u d false) : Nat) : Int)), (16, .bool false), (25, .bool false), (34, .bool false), (46, .slice A25 (ndg a) c26)], by kernel_rfl, ?_⟩
      refine GL.run (j := 5) 2 [0, 1, 2, 3, 8, 9, 10, 16, 25, 34, 46, 48] [(0, .int .u64 (a : Int)), (1, .int .u64 (u : Int)), (2, .int .u64 (d : Int)), (3, .bool false), (8, .bool false), (9, .int .u64 (((partV a u d false) : Nat) : Int)), (10, .int .i64 (((partE a u d false) : Nat) : Int)), (16, .bool false), (25, .bool false), (34, .bool false), (46, .slice A25 (ndg a) c26), (48, .agg #[.int .u64 (u : Int), .int .u64 0, .int .u64 0, .int .u64 0])] (by kernel_rfl) rfl ?_
      have hN36 : ndg u ≤ 4 := ndg_K hu
      refine GL.call (j := 6) (Of1_calls_n u hu w29) (by kernel_rfl) rfl (fun e_ w35 hR => ?_)
      obtain ⟨A31, c32, rfl, H34⟩ := hR
      have H33 : Hp w [] [.row A25 (ndg a) c26 22 1 (dg (digs a)), .row A31 (ndg u) c32 22 1 (dg (digs u))] w35 := H27.callNew H34
      refine ⟨_, rfl, [0, 1, 2, 3, 8, 9, 10, 16, 25, 34, 46, 49], [(0, .int .u64 (a : Int)), (1, .int .u64 (u : Int)), (2, .int .u64 (d : Int)), (3, .bool false), (8, .bool false), (9, .int .u64 (((partV a u d false) : Nat) : Int)), (10, .int .i64 (((partE a u d false) : Nat) : Int)), (16, .bool false), (25, .bool false), (34, .bool false), (46, .slice A25 (ndg a) c26), (49, .slice A31 (ndg u) c32)], by kernel_rfl, ?_⟩
      have hN42 : ndg (a * u) ≤ 8 := ndg_mul hN30 hN36
      refine GL.call (j := 7) (MulN_calls a u A25 c26 A31 c32 w35 (H33.rdRow 0 rfl) (H33.rdRow 1 rfl) (Nat.le_trans hN30 (by decide)) (Nat.le_trans hN36 (by decide))) (by kernel_rfl) rfl (fun e_ w41 hR => ?_)
      obtain ⟨A37, c38, rfl, H40⟩ := hR
      have H39 : Hp w [] [.row A25 (ndg a) c26 22 1 (dg (digs a)), .row A31 (ndg u) c32 22 1 (dg (digs u)), .row A37 (ndg (a * u)) c38 22 1 (dg (digs (a * u)))] w41 := H33.callNew H40
      refine ⟨_, rfl, [0, 1, 2, 3, 8, 9, 10, 16, 25, 34, 50], [(0, .int .u64 (a : Int)), (1, .int .u64 (u : Int)), (2, .int .u64 (d : Int)), (3, .bool false), (8, .bool false), (9, .int .u64 (((partV a u d false) : Nat) : Int)), (10, .int .i64 (((partE a u d false) : Nat) : Int)), (16, .bool false), (25, .bool false), (34, .bool false), (50, .slice A37 (ndg (a * u)) c38)], by kernel_rfl, ?_⟩
      refine GL.run (j := 9) 2 [0, 1, 2, 3, 8, 9, 10, 16, 25, 34, 50, 52] [(0, .int .u64 (a : Int)), (1, .int .u64 (u : Int)), (2, .int .u64 (d : Int)), (3, .bool false), (8, .bool false), (9, .int .u64 (((partV a u d false) : Nat) : Int)), (10, .int .i64 (((partE a u d false) : Nat) : Int)), (16, .bool false), (25, .bool false), (34, .bool false), (50, .slice A37 (ndg (a * u)) c38), (52, .agg #[.int .u64 (d : Int), .int .u64 0, .int .u64 0, .int .u64 0])] (by kernel_rfl) rfl ?_
      have hN48 : ndg d ≤ 4 := ndg_K hd
      refine GL.call (j := 10) (Of1_calls_n d hd w41) (by kernel_rfl) rfl (fun e_ w47 hR => ?_)
      obtain ⟨A43, c44, rfl, H46⟩ := hR
      have H45 : Hp w [] [.row A25 (ndg a) c26 22 1 (dg (digs a)), .row A31 (ndg u) c32 22 1 (dg (digs u)), .row A37 (ndg (a * u)) c38 22 1 (dg (digs (a * u))), .row A43 (ndg d) c44 22 1 (dg (digs d))] w47 := H39.callNew H46
      refine ⟨_, rfl, [0, 1, 2, 3, 8, 9, 10, 16, 25, 34, 50, 53], [(0, .int .u64 (a : Int)), (1, .int .u64 (u : Int)), (2, .int .u64 (d : Int)), (3, .bool false), (8, .bool false), (9, .int .u64 (((partV a u d false) : Nat) : Int)), (10, .int .i64 (((partE a u d false) : Nat) : Int)), (16, .bool false), (25, .bool false), (34, .bool false), (50, .slice A37 (ndg (a * u)) c38), (53, .slice A43 (ndg d) c44)], by kernel_rfl, ?_⟩
      have hN56 : ndg ((a * u) / d) ≤ 8 := ndg_div hN42
      have hN57 : ndg ((a * u) % d) ≤ 8 := ndg_mod hN42
      refine GL.call (j := 11) (DivN_calls (a * u) d A37 c38 A43 c44 w47 (H45.rdRow 2 rfl) (H45.rdRow 3 rfl) (Nat.le_trans hN42 (by decide)) (Nat.le_trans hN48 (by decide)) ((by omega))) (by kernel_rfl) rfl (fun e_ w55 hR => ?_)
      obtain ⟨A49, c50, A51, c52, rfl, H54⟩ := hR
      have H53 : Hp w [] [.row A25 (ndg a) c26 22 1 (dg (digs a)), .row A31 (ndg u) c32 22 1 (dg (digs u)), .row A37 (ndg (a * u)) c38 22 1 (dg (digs (a * u))), .row A43 (ndg d) c44 22 1 (dg (digs d)), .row A51 (ndg ((a * u) % d)) c52 22 1 (dg (digs ((a * u) % d))), .row A49 (ndg ((a * u) / d)) c50 22 1 (dg (digs ((a * u) / d)))] w55 := H45.callNew H54
      refine ⟨_, rfl, [0, 1, 2, 3, 8, 9, 10, 16, 25, 34, 54], [(0, .int .u64 (a : Int)), (1, .int .u64 (u : Int)), (2, .int .u64 (d : Int)), (3, .bool false), (8, .bool false), (9, .int .u64 (((partV a u d false) : Nat) : Int)), (10, .int .i64 (((partE a u d false) : Nat) : Int)), (16, .bool false), (25, .bool false), (34, .bool false), (54, .tuple #[.slice A49 (ndg ((a * u) / d)) c50, .slice A51 (ndg ((a * u) % d)) c52])], by kernel_rfl, ?_⟩
      refine GL.run (j := 16) 5 [0, 1, 2, 3, 8, 9, 10, 11, 12, 16, 25, 34] [(0, .int .u64 (a : Int)), (1, .int .u64 (u : Int)), (2, .int .u64 (d : Int)), (3, .bool false), (8, .bool false), (9, .int .u64 (((partV a u d false) : Nat) : Int)), (10, .int .i64 (((partE a u d false) : Nat) : Int)), (11, .slice A49 (ndg ((a * u) / d)) c50), (12, .slice A51 (ndg ((a * u) % d)) c52), (16, .bool false), (25, .bool false), (34, .bool false)] (by kernel_rfl) rfl ?_
      refine GL.k rfl hK24 (fun _ _ h => h) ?_
      refine G.seqK fun K58 hK59 => ?_
      refine G.seqK fun K60 hK61 => ?_
      refine G.region ?_
      refine GL.run (j := 6) 6 [0, 1, 2, 3, 8, 9, 10, 11, 12, 16, 25, 34, 62] [(0, .int .u64 (a : Int)), (1, .int .u64 (u : Int)), (2, .int .u64 (d : Int)), (3, .bool false), (8, .bool false), (9, .int .u64 (((partV a u d false) : Nat) : Int)), (10, .int .i64 (((partE a u d false) : Nat) : Int)), (11, .slice A49 (ndg ((a * u) / d)) c50), (12, .slice A51 (ndg ((a * u) % d)) c52), (16, .bool false), (25, .bool false), (34, .bool false), (62, .bool false)] (by kernel_rfl) rfl ?_
      refine GL.k rfl hK61 (fun _ _ h => h) ?_
      refine G.no rfl ?_
      refine G.skipK hK59 (fun _ _ h => h) ?_
      refine G.seqK fun K62 hK63 => ?_
      refine G.seqK fun K64 hK65 => ?_
      refine G.region ?_
      refine GL.run (j := 2) 2 [0, 1, 2, 3, 8, 9, 10, 11, 12, 16, 25, 34, 62, 66, 67] [(0, .int .u64 (a : Int)), (1, .int .u64 (u : Int)), (2, .int .u64 (d : Int)), (3, .bool false), (8, .bool false), (9, .int .u64 (((partV a u d false) : Nat) : Int)), (10, .int .i64 (((partE a u d false) : Nat) : Int)), (11, .slice A49 (ndg ((a * u) / d)) c50), (12, .slice A51 (ndg ((a * u) % d)) c52), (16, .bool false), (25, .bool false), (34, .bool false), (62, .bool false), (66, .slice A49 (ndg ((a * u) / d)) c50), (67, .agg #[.int .u64 4611686018427387904, .int .u64 0, .int .u64 0, .int .u64 0])] (by kernel_rfl) rfl ?_
      have hN71 : ndg 4611686018427387904 ≤ 4 := ndg_K (by decide)
      refine GL.call (j := 3) (Of_calls_n 4611686018427387904 (by decide) w55) (by kernel_rfl) rfl (fun e_ w70 hR => ?_)
      obtain ⟨A66, c67, rfl, H69⟩ := hR
      have H68 : Hp w [] [.row A25 (ndg a) c26 22 1 (dg (digs a)), .row A31 (ndg u) c32 22 1 (dg (digs u)), .row A37 (ndg (a * u)) c38 22 1 (dg (digs (a * u))), .row A43 (ndg d) c44 22 1 (dg (digs d)), .row A51 (ndg ((a * u) % d)) c52 22 1 (dg (digs ((a * u) % d))), .row A49 (ndg ((a * u) / d)) c50 22 1 (dg (digs ((a * u) / d))), .row A66 (ndg 4611686018427387904) c67 22 1 (dg (digs 4611686018427387904))] w70 := H53.callNew H69
      refine ⟨_, rfl, [0, 1, 2, 3, 8, 9, 10, 11, 12, 16, 25, 34, 62, 66, 68], [(0, .int .u64 (a : Int)), (1, .int .u64 (u : Int)), (2, .int .u64 (d : Int)), (3, .bool false), (8, .bool false), (9, .int .u64 (((partV a u d false) : Nat) : Int)), (10, .int .i64 (((partE a u d false) : Nat) : Int)), (11, .slice A49 (ndg ((a * u) / d)) c50), (12, .slice A51 (ndg ((a * u) % d)) c52), (16, .bool false), (25, .bool false), (34, .bool false), (62, .bool false), (66, .slice A49 (ndg ((a * u) / d)) c50), (68, .slice A66 (ndg 4611686018427387904) c67)], by kernel_rfl, ?_⟩
      refine GL.call (j := 4) (CmpN_calls ((a * u) / d) 4611686018427387904 A49 A66 c50 c67 w70 (H68.rdRow 5 rfl) (H68.rdRow 6 rfl) (Nat.le_trans hN56 (by decide)) (Nat.le_trans hN71 (by decide))) (by kernel_rfl) rfl (fun e_ w72 hR => ?_)
      obtain ⟨rfl, H74⟩ := hR
      have H73 : Hp w [] [.row A25 (ndg a) c26 22 1 (dg (digs a)), .row A31 (ndg u) c32 22 1 (dg (digs u)), .row A37 (ndg (a * u)) c38 22 1 (dg (digs (a * u))), .row A43 (ndg d) c44 22 1 (dg (digs d)), .row A51 (ndg ((a * u) % d)) c52 22 1 (dg (digs ((a * u) % d))), .row A49 (ndg ((a * u) / d)) c50 22 1 (dg (digs ((a * u) / d))), .row A66 (ndg 4611686018427387904) c67 22 1 (dg (digs 4611686018427387904))] w72 := H68.callNil H74
      refine ⟨_, rfl, [0, 1, 2, 3, 8, 9, 10, 11, 12, 16, 25, 34, 62, 69], [(0, .int .u64 (a : Int)), (1, .int .u64 (u : Int)), (2, .int .u64 (d : Int)), (3, .bool false), (8, .bool false), (9, .int .u64 (((partV a u d false) : Nat) : Int)), (10, .int .i64 (((partE a u d false) : Nat) : Int)), (11, .slice A49 (ndg ((a * u) / d)) c50), (12, .slice A51 (ndg ((a * u) % d)) c52), (16, .bool false), (25, .bool false), (34, .bool false), (62, .bool false), (69, .int .i64 (cmpN ((a * u) / d) 4611686018427387904))], by kernel_rfl, ?_⟩
      refine GL.run (j := 5) 1 [0, 1, 2, 3, 8, 9, 10, 11, 12, 16, 25, 34, 62, 70] [(0, .int .u64 (a : Int)), (1, .int .u64 (u : Int)), (2, .int .u64 (d : Int)), (3, .bool false), (8, .bool false), (9, .int .u64 (((partV a u d false) : Nat) : Int)), (10, .int .i64 (((partE a u d false) : Nat) : Int)), (11, .slice A49 (ndg ((a * u) / d)) c50), (12, .slice A51 (ndg ((a * u) % d)) c52), (16, .bool false), (25, .bool false), (34, .bool false), (62, .bool false), (70, .bool (decide (0 < (cmpN ((a * u) / d) 4611686018427387904))))] (by kernel_rfl) rfl ?_
      refine GL.k rfl hK65 (fun _ _ h => h) ?_
      cases hb75 : (decide (0 < (cmpN ((a * u) / d) 4611686018427387904)))
      · skip
        have hb75f := of_decide_eq_false hb75
        have hov : ¬ 4611686018427387904 < ((a * u) / d) := fun h => hb75f (cmp_gt0.2 h)
        have hlw := low_word (q := ((a * u) / d)) (by omega)
        refine G.no rfl ?_
        refine G.skipK hK63 (fun _ _ h => h) ?_
        refine G.seqK fun K76 hK77 => ?_
        refine G.region ?_
        refine GL.run (j := 1) 1 [0, 1, 2, 3, 8, 9, 10, 11, 12, 16, 25, 34, 62, 70, 78] [(0, .int .u64 (a : Int)), (1, .int .u64 (u : Int)), (2, .int .u64 (d : Int)), (3, .bool false), (8, .bool false), (9, .int .u64 (((partV a u d false) : Nat) : Int)), (10, .int .i64 (((partE a u d false) : Nat) : Int)), (11, .slice A49 (ndg ((a * u) / d)) c50), (12, .slice A51 (ndg ((a * u) % d)) c52), (16, .bool false), (25, .bool false), (34, .bool false), (62, .bool false), (70, .bool false), (78, .slice A49 (ndg ((a * u) / d)) c50)] (by kernel_rfl) rfl ?_
        refine GL.call (j := 2) (WordsN_calls ((a * u) / d) A49 c50 w72 (H73.rdRow 5 rfl) (Nat.le_trans hN56 (by decide))) (by kernel_rfl) rfl (fun e_ w78 hR => ?_)
        obtain ⟨rfl, H80⟩ := hR
        have H79 : Hp w [] [.row A25 (ndg a) c26 22 1 (dg (digs a)), .row A31 (ndg u) c32 22 1 (dg (digs u)), .row A37 (ndg (a * u)) c38 22 1 (dg (digs (a * u))), .row A43 (ndg d) c44 22 1 (dg (digs d)), .row A51 (ndg ((a * u) % d)) c52 22 1 (dg (digs ((a * u) % d))), .row A49 (ndg ((a * u) / d)) c50 22 1 (dg (digs ((a * u) / d))), .row A66 (ndg 4611686018427387904) c67 22 1 (dg (digs 4611686018427387904))] w78 := H73.callNil H80
        refine ⟨_, rfl, [0, 1, 2, 3, 8, 9, 10, 11, 12, 16, 25, 34, 62, 70, 79], [(0, .int .u64 (a : Int)), (1, .int .u64 (u : Int)), (2, .int .u64 (d : Int)), (3, .bool false), (8, .bool false), (9, .int .u64 (((partV a u d false) : Nat) : Int)), (10, .int .i64 (((partE a u d false) : Nat) : Int)), (11, .slice A49 (ndg ((a * u) / d)) c50), (12, .slice A51 (ndg ((a * u) % d)) c52), (16, .bool false), (25, .bool false), (34, .bool false), (62, .bool false), (70, .bool false), (79, .tuple #[.agg #[.int .u64 (wd (((a * u) / d) % K4) 0 : Int), .int .u64 (wd (((a * u) / d) % K4) 1 : Int), .int .u64 (wd (((a * u) / d) % K4) 2 : Int), .int .u64 (wd (((a * u) / d) % K4) 3 : Int)], .bool (decide (K4 ≤ ((a * u) / d)))])], by kernel_rfl, ?_⟩
        refine GL.run (j := 5) 3 [0, 1, 2, 3, 8, 9, 10, 11, 12, 16, 25, 34, 62, 70, 80, 81] [(0, .int .u64 (a : Int)), (1, .int .u64 (u : Int)), (2, .int .u64 (d : Int)), (3, .bool false), (8, .bool false), (9, .int .u64 (((partV a u d false) : Nat) : Int)), (10, .int .i64 (((partE a u d false) : Nat) : Int)), (11, .slice A49 (ndg ((a * u) / d)) c50), (12, .slice A51 (ndg ((a * u) % d)) c52), (16, .bool false), (25, .bool false), (34, .bool false), (62, .bool false), (70, .bool false), (80, .agg #[.int .u64 (wd (((a * u) / d) % K4) 0 : Int), .int .u64 (wd (((a * u) / d) % K4) 1 : Int), .int .u64 (wd (((a * u) / d) % K4) 2 : Int), .int .u64 (wd (((a * u) / d) % K4) 3 : Int)]), (81, .bool (decide (K4 ≤ ((a * u) / d))))] (by kernel_rfl) rfl ?_
        obtain ⟨p81, w82, r83, H84⟩ := H79.alloc (P := Try.prog) 35 [.int .u64 0, .int .u64 0, .int .u64 0, .int .u64 0] (by kernel_rfl)
        have H84 : Hp w [] [.row A25 (ndg a) c26 22 1 (dg (digs a)), .row A31 (ndg u) c32 22 1 (dg (digs u)), .row A37 (ndg (a * u)) c38 22 1 (dg (digs (a * u))), .row A43 (ndg d) c44 22 1 (dg (digs d)), .row A51 (ndg ((a * u) % d)) c52 22 1 (dg (digs ((a * u) % d))), .row A49 (ndg ((a * u) / d)) c50 22 1 (dg (digs ((a * u) / d))), .row A66 (ndg 4611686018427387904) c67 22 1 (dg (digs 4611686018427387904)), .blk p81 [.int .u64 0, .int .u64 0, .int .u64 0, .int .u64 0] 35] w82 := H84
        refine GL.sem (j := 6) (r83) [0, 1, 2, 3, 8, 9, 10, 11, 12, 13, 16, 25, 34, 62, 70, 80, 81] [(0, .int .u64 (a : Int)), (1, .int .u64 (u : Int)), (2, .int .u64 (d : Int)), (3, .bool false), (8, .bool false), (9, .int .u64 (((partV a u d false) : Nat) : Int)), (10, .int .i64 (((partE a u d false) : Nat) : Int)), (11, .slice A49 (ndg ((a * u) / d)) c50), (12, .slice A51 (ndg ((a * u) % d)) c52), (13, .pointer (some ⟨p81, 0, none⟩)), (16, .bool false), (25, .bool false), (34, .bool false), (62, .bool false), (70, .bool false), (80, .agg #[.int .u64 (wd (((a * u) / d) % K4) 0 : Int), .int .u64 (wd (((a * u) / d) % K4) 1 : Int), .int .u64 (wd (((a * u) / d) % K4) 2 : Int), .int .u64 (wd (((a * u) / d) % K4) 3 : Int)]), (81, .bool (decide (K4 ≤ ((a * u) / d))))] (by kernel_rfl) (by kernel_rfl) rfl ?_
        obtain ⟨w85, r86, H87⟩ := H84.stA (P := Try.prog) (o := 0) (vs := [.int .u64 (wd (((a * u) / d) % K4) 0 : Int), .int .u64 (wd (((a * u) / d) % K4) 1 : Int), .int .u64 (wd (((a * u) / d) % K4) 2 : Int), .int .u64 (wd (((a * u) / d) % K4) 3 : Int)]) (ty := 35) (m := 4) 7 rfl (by kernel_rfl) rfl (by simp) (by simp [Value.oneCell'])
        have H87 : Hp w [] [.row A25 (ndg a) c26 22 1 (dg (digs a)), .row A31 (ndg u) c32 22 1 (dg (digs u)), .row A37 (ndg (a * u)) c38 22 1 (dg (digs (a * u))), .row A43 (ndg d) c44 22 1 (dg (digs d)), .row A51 (ndg ((a * u) % d)) c52 22 1 (dg (digs ((a * u) % d))), .row A49 (ndg ((a * u) / d)) c50 22 1 (dg (digs ((a * u) / d))), .row A66 (ndg 4611686018427387904) c67 22 1 (dg (digs 4611686018427387904)), .blk p81 [.int .u64 (wd (((a * u) / d) % K4) 0 : Int), .int .u64 (wd (((a * u) / d) % K4) 1 : Int), .int .u64 (wd (((a * u) / d) % K4) 2 : Int), .int .u64 (wd (((a * u) / d) % K4) 3 : Int)] 35] w85 := H87
        refine GL.semU (j := 7) r86 [0, 1, 2, 3, 8, 9, 10, 11, 12, 13, 16, 25, 34, 62, 70, 81] [(0, .int .u64 (a : Int)), (1, .int .u64 (u : Int)), (2, .int .u64 (d : Int)), (3, .bool false), (8, .bool false), (9, .int .u64 (((partV a u d false) : Nat) : Int)), (10, .int .i64 (((partE a u d false) : Nat) : Int)), (11, .slice A49 (ndg ((a * u) / d)) c50), (12, .slice A51 (ndg ((a * u) % d)) c52), (13, .pointer (some ⟨p81, 0, none⟩)), (16, .bool false), (25, .bool false), (34, .bool false), (62, .bool false), (70, .bool false), (81, .bool (decide (K4 ≤ ((a * u) / d))))] (by kernel_rfl) rfl rfl rfl ?_
        refine GL.run (j := 8) 1 [0, 1, 2, 3, 8, 9, 10, 11, 12, 13, 16, 25, 34, 62, 70] [(0, .int .u64 (a : Int)), (1, .int .u64 (u : Int)), (2, .int .u64 (d : Int)), (3, .bool false), (8, .bool false), (9, .int .u64 (((partV a u d false) : Nat) : Int)), (10, .int .i64 (((partE a u d false) : Nat) : Int)), (11, .slice A49 (ndg ((a * u) / d)) c50), (12, .slice A51 (ndg ((a * u) % d)) c52), (13, .pointer (some ⟨p81, 0, none⟩)), (16, .bool false), (25, .bool false), (34, .bool false), (62, .bool false), (70, .bool false)] (by kernel_rfl) rfl ?_
        refine GL.k rfl hK77 (fun _ _ h => h) ?_
        refine G.seqK fun K88 hK89 => ?_
        refine G.region ?_
        refine GL.run (j := 3) 3 [0, 1, 2, 3, 8, 9, 10, 11, 12, 13, 16, 25, 34, 62, 70, 84] [(0, .int .u64 (a : Int)), (1, .int .u64 (u : Int)), (2, .int .u64 (d : Int)), (3, .bool false), (8, .bool false), (9, .int .u64 (((partV a u d false) : Nat) : Int)), (10, .int .i64 (((partE a u d false) : Nat) : Int)), (11, .slice A49 (ndg ((a * u) / d)) c50), (12, .slice A51 (ndg ((a * u) % d)) c52), (13, .pointer (some ⟨p81, 0, none⟩)), (16, .bool false), (25, .bool false), (34, .bool false), (62, .bool false), (70, .bool false), (84, .bool ((((partE a u d false) : Nat) : Int) == 0))] (by kernel_rfl) rfl ?_
        cases hb90 : ((((partE a u d false) : Nat) : Int) == 0)
        · skip
          have hb90f := ne_of_beq_false hb90
          refine GL.run (j := 9) 6 [0, 1, 2, 3, 8, 9, 10, 11, 12, 13, 16, 25, 34, 62, 70] [(0, .int .u64 (a : Int)), (1, .int .u64 (u : Int)), (2, .int .u64 (d : Int)), (3, .bool false), (8, .bool false), (9, .int .u64 (((partV a u d false) : Nat) : Int)), (10, .int .i64 (((partE a u d false) : Nat) : Int)), (11, .slice A49 (ndg ((a * u) / d)) c50), (12, .slice A51 (ndg ((a * u) % d)) c52), (13, .pointer (some ⟨p81, 0, none⟩)), (16, .bool false), (25, .bool false), (34, .bool false), (62, .bool false), (70, .bool false)] (by kernel_rfl) rfl ?_
          refine GL.k rfl hK89 (fun _ _ h => h) ?_
          refine G.ret ?_
          intro F_ hF_ hM_
          refine hRet _ _ (bodyPost_1 rfl (RV.tmp rfl) ?_ F_ hF_ hM_)
          exfalso
          omega
        · skip
          have hb90f := eq_of_beq hb90
          refine GL.run (j := 5) 2 [0, 1, 2, 3, 8, 9, 10, 11, 12, 13, 16, 25, 34, 62, 70, 84, 85, 86] [(0, .int .u64 (a : Int)), (1, .int .u64 (u : Int)), (2, .int .u64 (d : Int)), (3, .bool false), (8, .bool false), (9, .int .u64 (((partV a u d false) : Nat) : Int)), (10, .int .i64 (((partE a u d false) : Nat) : Int)), (11, .slice A49 (ndg ((a * u) / d)) c50), (12, .slice A51 (ndg ((a * u) % d)) c52), (13, .pointer (some ⟨p81, 0, none⟩)), (16, .bool false), (25, .bool false), (34, .bool false), (62, .bool false), (70, .bool false), (84, .bool true), (85, .int .u64 (((partV a u d false) : Nat) : Int)), (86, .pointer (some ⟨p81, 0, none⟩))] (by kernel_rfl) rfl ?_
          refine GL.sem (j := 6) (H87.ld (o := 0) (ty := 22) (v := .int .u64 (wd (((a * u) / d) % K4) 0 : Int)) 7 rfl (by kernel_rfl) rfl) [0, 1, 2, 3, 8, 9, 10, 11, 12, 13, 16, 25, 34, 62, 70, 84, 85, 87] [(0, .int .u64 (a : Int)), (1, .int .u64 (u : Int)), (2, .int .u64 (d : Int)), (3, .bool false), (8, .bool false), (9, .int .u64 (((partV a u d false) : Nat) : Int)), (10, .int .i64 (((partE a u d false) : Nat) : Int)), (11, .slice A49 (ndg ((a * u) / d)) c50), (12, .slice A51 (ndg ((a * u) % d)) c52), (13, .pointer (some ⟨p81, 0, none⟩)), (16, .bool false), (25, .bool false), (34, .bool false), (62, .bool false), (70, .bool false), (84, .bool true), (85, .int .u64 (((partV a u d false) : Nat) : Int)), (87, .int .u64 (wd (((a * u) / d) % K4) 0 : Int))] (by kernel_rfl) (by kernel_rfl) rfl ?_
          refine GL.run (j := 9) 3 [0, 1, 2, 3, 8, 9, 10, 11, 12, 13, 16, 25, 34, 62, 70] [(0, .int .u64 (a : Int)), (1, .int .u64 (u : Int)), (2, .int .u64 (d : Int)), (3, .bool false), (8, .bool ((((partV a u d false) : Nat) : Int) == (wd (((a * u) / d) % K4) 0 : Int))), (9, .int .u64 (((partV a u d false) : Nat) : Int)), (10, .int .i64 (((partE a u d false) : Nat) : Int)), (11, .slice A49 (ndg ((a * u) / d)) c50), (12, .slice A51 (ndg ((a * u) % d)) c52), (13, .pointer (some ⟨p81, 0, none⟩)), (16, .bool false), (25, .bool false), (34, .bool false), (62, .bool false), (70, .bool false)] (by kernel_rfl) rfl ?_
          refine GL.k rfl hK89 (fun _ _ h => h) ?_
          refine G.ret ?_
          intro F_ hF_ hM_
          refine hRet _ _ (bodyPost_1 rfl (RV.tmp rfl) ?_ F_ hF_ hM_)
          cases hb91 : ((((partV a u d false) : Nat) : Int) == (wd (((a * u) / d) % K4) 0 : Int))
          · skip
            have hb91f := ne_of_beq_false hb91
            exfalso
            omega
          · skip
            have hb91f := eq_of_beq hb91
            exact ⟨rfl, H87.sub (List.nil_sublist _)⟩
      · skip
        have hb75f := of_decide_eq_true hb75
        have hov : 4611686018427387904 < ((a * u) / d) := cmp_gt0.1 hb75f
        refine G.yes rfl ?_
        refine G.seqK fun K92 hK93 => ?_
        refine G.region ?_
        refine GL.run (j := 3) 3 [0, 1, 2, 3, 8, 9, 10, 11, 12, 16, 25, 34, 62, 70, 73] [(0, .int .u64 (a : Int)), (1, .int .u64 (u : Int)), (2, .int .u64 (d : Int)), (3, .bool false), (8, .bool false), (9, .int .u64 (((partV a u d false) : Nat) : Int)), (10, .int .i64 (((partE a u d false) : Nat) : Int)), (11, .slice A49 (ndg ((a * u) / d)) c50), (12, .slice A51 (ndg ((a * u) % d)) c52), (16, .bool false), (25, .bool false), (34, .bool false), (62, .bool false), (70, .bool true), (73, .bool ((((partE a u d false) : Nat) : Int) == 4))] (by kernel_rfl) rfl ?_
        cases hb94 : ((((partE a u d false) : Nat) : Int) == 4)
        · skip
          have hb94f := ne_of_beq_false hb94
          refine GL.run (j := 7) 4 [0, 1, 2, 3, 8, 9, 10, 11, 12, 16, 25, 34, 62, 70] [(0, .int .u64 (a : Int)), (1, .int .u64 (u : Int)), (2, .int .u64 (d : Int)), (3, .bool false), (8, .bool false), (9, .int .u64 (((partV a u d false) : Nat) : Int)), (10, .int .i64 (((partE a u d false) : Nat) : Int)), (11, .slice A49 (ndg ((a * u) / d)) c50), (12, .slice A51 (ndg ((a * u) % d)) c52), (16, .bool false), (25, .bool false), (34, .bool false), (62, .bool false), (70, .bool true)] (by kernel_rfl) rfl ?_
          refine GL.k rfl hK93 (fun _ _ h => h) ?_
          refine G.ret ?_
          intro F_ hF_ hM_
          refine hRet _ _ (bodyPost_1 rfl (RV.tmp rfl) ?_ F_ hF_ hM_)
          exfalso
          omega
        · skip
          have hb94f := eq_of_beq hb94
          refine GL.run (j := 7) 4 [0, 1, 2, 3, 8, 9, 10, 11, 12, 16, 25, 34, 62, 70] [(0, .int .u64 (a : Int)), (1, .int .u64 (u : Int)), (2, .int .u64 (d : Int)), (3, .bool false), (8, .bool ((((partV a u d false) : Nat) : Int) == 0)), (9, .int .u64 (((partV a u d false) : Nat) : Int)), (10, .int .i64 (((partE a u d false) : Nat) : Int)), (11, .slice A49 (ndg ((a * u) / d)) c50), (12, .slice A51 (ndg ((a * u) % d)) c52), (16, .bool false), (25, .bool false), (34, .bool false), (62, .bool false), (70, .bool true)] (by kernel_rfl) rfl ?_
          refine GL.k rfl hK93 (fun _ _ h => h) ?_
          refine G.ret ?_
          intro F_ hF_ hM_
          refine hRet _ _ (bodyPost_1 rfl (RV.tmp rfl) ?_ F_ hF_ hM_)
          cases hb95 : ((((partV a u d false) : Nat) : Int) == 0)
          · skip
            have hb95f := ne_of_beq_false hb95
            exfalso
            omega
          · skip
            have hb95f := eq_of_beq hb95
            exact ⟨rfl, H73.sub (List.nil_sublist _)⟩
    · skip
      have hb22f := eq_of_beq hb22
      refine G.yes rfl ?_
      refine G.seqK fun K96 hK97 => ?_
      refine G.region ?_
      refine GL.run (j := 3) 3 [0, 1, 2, 3, 8, 9, 10, 16, 25, 34, 39] [(0, .int .u64 (a : Int)), (1, .int .u64 (u : Int)), (2, .int .u64 (d : Int)), (3, .bool false), (8, .bool false), (9, .int .u64 (((partV a u d false) : Nat) : Int)), (10, .int .i64 (((partE a u d false) : Nat) : Int)), (16, .bool false), (25, .bool false), (34, .bool true), (39, .bool ((((partE a u d false) : Nat) : Int) == 5))] (by kernel_rfl) rfl ?_
      cases hb98 : ((((partE a u d false) : Nat) : Int) == 5)
      · skip
        have hb98f := ne_of_beq_false hb98
        refine GL.run (j := 7) 4 [0, 1, 2, 3, 8, 9, 10, 16, 25, 34] [(0, .int .u64 (a : Int)), (1, .int .u64 (u : Int)), (2, .int .u64 (d : Int)), (3, .bool false), (8, .bool false), (9, .int .u64 (((partV a u d false) : Nat) : Int)), (10, .int .i64 (((partE a u d false) : Nat) : Int)), (16, .bool false), (25, .bool false), (34, .bool true)] (by kernel_rfl) rfl ?_
        refine GL.k rfl hK97 (fun _ _ h => h) ?_
        refine G.ret ?_
        intro F_ hF_ hM_
        refine hRet _ _ (bodyPost_1 rfl (RV.tmp rfl) ?_ F_ hF_ hM_)
        exfalso
        omega
      · skip
        have hb98f := eq_of_beq hb98
        refine GL.run (j := 7) 4 [0, 1, 2, 3, 8, 9, 10, 16, 25, 34] [(0, .int .u64 (a : Int)), (1, .int .u64 (u : Int)), (2, .int .u64 (d : Int)), (3, .bool false), (8, .bool ((((partV a u d false) : Nat) : Int) == 0)), (9, .int .u64 (((partV a u d false) : Nat) : Int)), (10, .int .i64 (((partE a u d false) : Nat) : Int)), (16, .bool false), (25, .bool false), (34, .bool true)] (by kernel_rfl) rfl ?_
        refine GL.k rfl hK97 (fun _ _ h => h) ?_
        refine G.ret ?_
        intro F_ hF_ hM_
        refine hRet _ _ (bodyPost_1 rfl (RV.tmp rfl) ?_ F_ hF_ hM_)
        cases hb99 : ((((partV a u d false) : Nat) : Int) == 0)
        · skip
          have hb99f := ne_of_beq_false hb99
          exfalso
          omega
        · skip
          have hb99f := eq_of_beq hb99
          exact ⟨rfl, H13.sub (List.nil_sublist _)⟩
  · skip
    have hb19f := of_decide_eq_true hb19
    refine G.yes rfl ?_
    refine G.seqK fun K100 hK101 => ?_
    refine G.region ?_
    refine GL.run (j := 3) 3 [0, 1, 2, 3, 8, 9, 10, 16, 25, 30] [(0, .int .u64 (a : Int)), (1, .int .u64 (u : Int)), (2, .int .u64 (d : Int)), (3, .bool false), (8, .bool false), (9, .int .u64 (((partV a u d false) : Nat) : Int)), (10, .int .i64 (((partE a u d false) : Nat) : Int)), (16, .bool false), (25, .bool true), (30, .bool ((((partE a u d false) : Nat) : Int) == 1))] (by kernel_rfl) rfl ?_
    cases hb102 : ((((partE a u d false) : Nat) : Int) == 1)
    · skip
      have hb102f := ne_of_beq_false hb102
      refine GL.run (j := 7) 4 [0, 1, 2, 3, 8, 9, 10, 16, 25] [(0, .int .u64 (a : Int)), (1, .int .u64 (u : Int)), (2, .int .u64 (d : Int)), (3, .bool false), (8, .bool false), (9, .int .u64 (((partV a u d false) : Nat) : Int)), (10, .int .i64 (((partE a u d false) : Nat) : Int)), (16, .bool false), (25, .bool true)] (by kernel_rfl) rfl ?_
      refine GL.k rfl hK101 (fun _ _ h => h) ?_
      refine G.ret ?_
      intro F_ hF_ hM_
      refine hRet _ _ (bodyPost_1 rfl (RV.tmp rfl) ?_ F_ hF_ hM_)
      exfalso
      omega
    · skip
      have hb102f := eq_of_beq hb102
      refine GL.run (j := 7) 4 [0, 1, 2, 3, 8, 9, 10, 16, 25] [(0, .int .u64 (a : Int)), (1, .int .u64 (u : Int)), (2, .int .u64 (d : Int)), (3, .bool false), (8, .bool ((((partV a u d false) : Nat) : Int) == 0)), (9, .int .u64 (((partV a u d false) : Nat) : Int)), (10, .int .i64 (((partE a u d false) : Nat) : Int)), (16, .bool false), (25, .bool true)] (by kernel_rfl) rfl ?_
      refine GL.k rfl hK101 (fun _ _ h => h) ?_
      refine G.ret ?_
      intro F_ hF_ hM_
      refine hRet _ _ (bodyPost_1 rfl (RV.tmp rfl) ?_ F_ hF_ hM_)
      cases hb103 : ((((partV a u d false) : Nat) : Int) == 0)
      · skip
        have hb103f := ne_of_beq_false hb103
        exfalso
        omega
      · skip
        have hb103f := eq_of_beq hb103
        exact ⟨rfl, H13.sub (List.nil_sublist _)⟩
theorem MoneyParts_calls (a u d : Nat) (m : Bool) (ha : a < K) (hu : u < K) (hd : d < K) (w : World) : Calls Try.prog 4 #[.int .u64 (a : Int), .int .u64 (u : Int), .int .u64 (d : Int), .bool m] w fun e w' => e = .returned (.bool true) ∧ Hp w [] [] w' := by
  cases m
  · exact MoneyParts_false a u d ha hu hd w
  · exact MoneyParts_true a u d ha hu hd w
end Go.Proofs.Ytgbhiklengafiaa
