/- What is rounded up is what is rounded down, or one more: the walk. -/
import Derived.Test.YtgbhiklengafiaaLives
namespace Go.Proofs.Ytgbhiklengafiaa
open Go.RowKit
theorem MoneyRounds_calls (a b u d : Nat) (ha : a < K) (hb : b < K) (hu : u < K) (hd : d < K) (w : World) : Calls Try.prog 3 #[.int .u64 (a : Int), .int .u64 (b : Int), .int .u64 (u : Int), .int .u64 (d : Int)] w fun e w' => e = .returned (.bool true) ∧ Hp w [] [] w' := by
  have hMX : MX = 4611686018427387904 := rfl
  have hK0 : K = 18446744073709551616 := rfl
  have R := rounds a b u d
  have L := partV_le a u d false
  refine calls_G (args := [.int .u64 (a : Int), .int .u64 (b : Int), .int .u64 (u : Int), .int .u64 (d : Int)]) Try.func3 rfl Try.ntmps3 rfl ?_
  intro Q0 hRet hNor hPan
  have H := Hp.start w
  have H : Hp w [] [] w := H
  refine G.seqK fun K1 hK2 => ?_
  refine G.region ?_
  refine GL.run (j := 1) 1 [0, 1, 2, 3, 8] [(0, .int .u64 (a : Int)), (1, .int .u64 (b : Int)), (2, .int .u64 (u : Int)), (3, .int .u64 (d : Int)), (8, .bool false)] (by kernel_rfl) rfl ?_
  refine GL.k rfl hK2 (fun _ _ h => h) ?_
  refine G.seqK fun K3 hK4 => ?_
  refine G.seqK fun K5 hK6 => ?_
  refine G.region ?_
  refine GL.call (j := 1) (lives_calls w) (by kernel_rfl) rfl (fun e_ w7 hR => ?_)
  obtain ⟨rfl, H9⟩ := hR
  have H8 : Hp w [] [] w7 := H.callNil H9
  refine ⟨_, rfl, [0, 1, 2, 3, 8, 15], [(0, .int .u64 (a : Int)), (1, .int .u64 (b : Int)), (2, .int .u64 (u : Int)), (3, .int .u64 (d : Int)), (8, .bool false), (15, .bool true)], by kernel_rfl, ?_⟩
  refine GL.run (j := 2) 1 [0, 1, 2, 3, 8, 16] [(0, .int .u64 (a : Int)), (1, .int .u64 (b : Int)), (2, .int .u64 (u : Int)), (3, .int .u64 (d : Int)), (8, .bool false), (16, .bool false)] (by kernel_rfl) rfl ?_
  refine GL.k rfl hK6 (fun _ _ h => h) ?_
  refine G.no rfl ?_
  refine G.skipK hK4 (fun _ _ h => h) ?_
  refine G.seqK fun K10 hK11 => ?_
  refine G.region ?_
  refine GL.run (j := 3) 3 [0, 1, 2, 3, 8, 16, 18, 19, 20] [(0, .int .u64 (a : Int)), (1, .int .u64 (b : Int)), (2, .int .u64 (u : Int)), (3, .int .u64 (d : Int)), (8, .bool false), (16, .bool false), (18, .int .u64 (a : Int)), (19, .int .u64 (u : Int)), (20, .int .u64 (d : Int))] (by kernel_rfl) rfl ?_
  refine GL.call (j := 4) (Part_downA a u d ha hu hd w7) (by kernel_rfl) rfl (fun e_ w12 hR => ?_)
  obtain ⟨rfl, H14⟩ := hR
  have H13 : Hp w [] [] w12 := H8.callNil H14
  refine ⟨_, rfl, [0, 1, 2, 3, 8, 16, 21], [(0, .int .u64 (a : Int)), (1, .int .u64 (b : Int)), (2, .int .u64 (u : Int)), (3, .int .u64 (d : Int)), (8, .bool false), (16, .bool false), (21, .tuple #[.int .u64 (((partV a u d false) : Nat) : Int), .int .i64 (((partE a u d false) : Nat) : Int)])], by kernel_rfl, ?_⟩
  refine GL.run (j := 9) 5 [0, 1, 2, 3, 8, 9, 10, 16] [(0, .int .u64 (a : Int)), (1, .int .u64 (b : Int)), (2, .int .u64 (u : Int)), (3, .int .u64 (d : Int)), (8, .bool false), (9, .int .u64 (((partV a u d false) : Nat) : Int)), (10, .int .i64 (((partE a u d false) : Nat) : Int)), (16, .bool false)] (by kernel_rfl) rfl ?_
  refine GL.k rfl hK11 (fun _ _ h => h) ?_
  refine G.seqK fun K15 hK16 => ?_
  refine G.region ?_
  refine GL.run (j := 3) 3 [0, 1, 2, 3, 8, 9, 10, 16, 25, 26, 27] [(0, .int .u64 (a : Int)), (1, .int .u64 (b : Int)), (2, .int .u64 (u : Int)), (3, .int .u64 (d : Int)), (8, .bool false), (9, .int .u64 (((partV a u d false) : Nat) : Int)), (10, .int .i64 (((partE a u d false) : Nat) : Int)), (16, .bool false), (25, .int .u64 (a : Int)), (26, .int .u64 (u : Int)), (27, .int .u64 (d : Int))] (by kernel_rfl) rfl ?_
  refine GL.call (j := 4) (Part_upA a u d ha hu hd w12) (by kernel_rfl) rfl (fun e_ w17 hR => ?_)
  obtain ⟨rfl, H19⟩ := hR
  have H18 : Hp w [] [] w17 := H13.callNil H19
  refine ⟨_, rfl, [0, 1, 2, 3, 8, 9, 10, 16, 28], [(0, .int .u64 (a : Int)), (1, .int .u64 (b : Int)), (2, .int .u64 (u : Int)), (3, .int .u64 (d : Int)), (8, .bool false), (9, .int .u64 (((partV a u d false) : Nat) : Int)), (10, .int .i64 (((partE a u d false) : Nat) : Int)), (16, .bool false), (28, .tuple #[.int .u64 (((partV a u d true) : Nat) : Int), .int .i64 (((partE a u d true) : Nat) : Int)])], by kernel_rfl, ?_⟩
  refine GL.run (j := 9) 5 [0, 1, 2, 3, 8, 9, 10, 11, 12, 16] [(0, .int .u64 (a : Int)), (1, .int .u64 (b : Int)), (2, .int .u64 (u : Int)), (3, .int .u64 (d : Int)), (8, .bool false), (9, .int .u64 (((partV a u d false) : Nat) : Int)), (10, .int .i64 (((partE a u d false) : Nat) : Int)), (11, .int .u64 (((partV a u d true) : Nat) : Int)), (12, .int .i64 (((partE a u d true) : Nat) : Int)), (16, .bool false)] (by kernel_rfl) rfl ?_
  refine GL.k rfl hK16 (fun _ _ h => h) ?_
  refine G.seqK fun K20 hK21 => ?_
  refine G.seqK fun K22 hK23 => ?_
  refine G.region ?_
  refine GL.run (j := 3) 3 [0, 1, 2, 3, 8, 9, 10, 11, 12, 16, 33] [(0, .int .u64 (a : Int)), (1, .int .u64 (b : Int)), (2, .int .u64 (u : Int)), (3, .int .u64 (d : Int)), (8, .bool false), (9, .int .u64 (((partV a u d false) : Nat) : Int)), (10, .int .i64 (((partE a u d false) : Nat) : Int)), (11, .int .u64 (((partV a u d true) : Nat) : Int)), (12, .int .i64 (((partE a u d true) : Nat) : Int)), (16, .bool false), (33, .bool ((((partE a u d false) : Nat) : Int) == 0))] (by kernel_rfl) rfl ?_
  cases hb24 : ((((partE a u d false) : Nat) : Int) == 0)
  · skip
    have hb24f := ne_of_beq_false hb24
    refine GL.run (j := 17) 14 [0, 1, 2, 3, 8, 9, 10, 11, 12, 16, 47] [(0, .int .u64 (a : Int)), (1, .int .u64 (b : Int)), (2, .int .u64 (u : Int)), (3, .int .u64 (d : Int)), (8, .bool false), (9, .int .u64 (((partV a u d false) : Nat) : Int)), (10, .int .i64 (((partE a u d false) : Nat) : Int)), (11, .int .u64 (((partV a u d true) : Nat) : Int)), (12, .int .i64 (((partE a u d true) : Nat) : Int)), (16, .bool false), (47, .bool false)] (by kernel_rfl) rfl ?_
    refine GL.k rfl hK23 (fun _ _ h => h) ?_
    refine G.no rfl ?_
    refine G.skipK hK21 (fun _ _ h => h) ?_
    refine G.seqK fun K25 hK26 => ?_
    refine G.seqK fun K27 hK28 => ?_
    refine G.region ?_
    refine GL.run (j := 3) 3 [0, 1, 2, 3, 8, 9, 10, 11, 12, 16, 47, 50] [(0, .int .u64 (a : Int)), (1, .int .u64 (b : Int)), (2, .int .u64 (u : Int)), (3, .int .u64 (d : Int)), (8, .bool false), (9, .int .u64 (((partV a u d false) : Nat) : Int)), (10, .int .i64 (((partE a u d false) : Nat) : Int)), (11, .int .u64 (((partV a u d true) : Nat) : Int)), (12, .int .i64 (((partE a u d true) : Nat) : Int)), (16, .bool false), (47, .bool false), (50, .bool ((((partE a u d true) : Nat) : Int) == 0))] (by kernel_rfl) rfl ?_
    cases hb29 : ((((partE a u d true) : Nat) : Int) == 0)
    · skip
      have hb29f := ne_of_beq_false hb29
      refine GL.run (j := 11) 8 [0, 1, 2, 3, 8, 9, 10, 11, 12, 16, 47, 54, 58] [(0, .int .u64 (a : Int)), (1, .int .u64 (b : Int)), (2, .int .u64 (u : Int)), (3, .int .u64 (d : Int)), (8, .bool false), (9, .int .u64 (((partV a u d false) : Nat) : Int)), (10, .int .i64 (((partE a u d false) : Nat) : Int)), (11, .int .u64 (((partV a u d true) : Nat) : Int)), (12, .int .i64 (((partE a u d true) : Nat) : Int)), (16, .bool false), (47, .bool false), (54, .bool false), (58, .bool ((((partE a u d false) : Nat) : Int) != (((partE a u d true) : Nat) : Int)))] (by kernel_rfl) rfl ?_
      cases hb30 : ((((partE a u d false) : Nat) : Int) != (((partE a u d true) : Nat) : Int))
      · skip
        have hb30f : (((partE a u d false) : Nat) : Int) = (((partE a u d true) : Nat) : Int) := by simpa using hb30
        refine GL.run (j := 15) 4 [0, 1, 2, 3, 8, 9, 10, 11, 12, 16, 47, 62] [(0, .int .u64 (a : Int)), (1, .int .u64 (b : Int)), (2, .int .u64 (u : Int)), (3, .int .u64 (d : Int)), (8, .bool false), (9, .int .u64 (((partV a u d false) : Nat) : Int)), (10, .int .i64 (((partE a u d false) : Nat) : Int)), (11, .int .u64 (((partV a u d true) : Nat) : Int)), (12, .int .i64 (((partE a u d true) : Nat) : Int)), (16, .bool false), (47, .bool false), (62, .bool false)] (by kernel_rfl) rfl ?_
        refine GL.k rfl hK28 (fun _ _ h => h) ?_
        refine G.no rfl ?_
        refine G.skipK hK26 (fun _ _ h => h) ?_
        refine G.seqK fun K31 hK32 => ?_
        refine G.region ?_
        refine GL.run (j := 3) 3 [0, 1, 2, 3, 8, 9, 10, 11, 12, 16, 47, 62, 64, 65, 66] [(0, .int .u64 (a : Int)), (1, .int .u64 (b : Int)), (2, .int .u64 (u : Int)), (3, .int .u64 (d : Int)), (8, .bool false), (9, .int .u64 (((partV a u d false) : Nat) : Int)), (10, .int .i64 (((partE a u d false) : Nat) : Int)), (11, .int .u64 (((partV a u d true) : Nat) : Int)), (12, .int .i64 (((partE a u d true) : Nat) : Int)), (16, .bool false), (47, .bool false), (62, .bool false), (64, .int .u64 (b : Int)), (65, .int .u64 (u : Int)), (66, .int .u64 (d : Int))] (by kernel_rfl) rfl ?_
        refine GL.call (j := 4) (Part_downA b u d hb hu hd w17) (by kernel_rfl) rfl (fun e_ w33 hR => ?_)
        obtain ⟨rfl, H35⟩ := hR
        have H34 : Hp w [] [] w33 := H18.callNil H35
        refine ⟨_, rfl, [0, 1, 2, 3, 8, 9, 10, 11, 12, 16, 47, 62, 67], [(0, .int .u64 (a : Int)), (1, .int .u64 (b : Int)), (2, .int .u64 (u : Int)), (3, .int .u64 (d : Int)), (8, .bool false), (9, .int .u64 (((partV a u d false) : Nat) : Int)), (10, .int .i64 (((partE a u d false) : Nat) : Int)), (11, .int .u64 (((partV a u d true) : Nat) : Int)), (12, .int .i64 (((partE a u d true) : Nat) : Int)), (16, .bool false), (47, .bool false), (62, .bool false), (67, .tuple #[.int .u64 (((partV b u d false) : Nat) : Int), .int .i64 (((partE b u d false) : Nat) : Int)])], by kernel_rfl, ?_⟩
        refine GL.run (j := 9) 5 [0, 1, 2, 3, 8, 9, 10, 11, 12, 13, 14, 16, 47, 62] [(0, .int .u64 (a : Int)), (1, .int .u64 (b : Int)), (2, .int .u64 (u : Int)), (3, .int .u64 (d : Int)), (8, .bool false), (9, .int .u64 (((partV a u d false) : Nat) : Int)), (10, .int .i64 (((partE a u d false) : Nat) : Int)), (11, .int .u64 (((partV a u d true) : Nat) : Int)), (12, .int .i64 (((partE a u d true) : Nat) : Int)), (13, .int .u64 (((partV b u d false) : Nat) : Int)), (14, .int .i64 (((partE b u d false) : Nat) : Int)), (16, .bool false), (47, .bool false), (62, .bool false)] (by kernel_rfl) rfl ?_
        refine GL.k rfl hK32 (fun _ _ h => h) ?_
        refine G.seqK fun K36 hK37 => ?_
        refine G.region ?_
        refine GL.run (j := 3) 3 [0, 1, 2, 3, 8, 9, 10, 11, 12, 13, 14, 16, 47, 62, 72] [(0, .int .u64 (a : Int)), (1, .int .u64 (b : Int)), (2, .int .u64 (u : Int)), (3, .int .u64 (d : Int)), (8, .bool false), (9, .int .u64 (((partV a u d false) : Nat) : Int)), (10, .int .i64 (((partE a u d false) : Nat) : Int)), (11, .int .u64 (((partV a u d true) : Nat) : Int)), (12, .int .i64 (((partE a u d true) : Nat) : Int)), (13, .int .u64 (((partV b u d false) : Nat) : Int)), (14, .int .i64 (((partE b u d false) : Nat) : Int)), (16, .bool false), (47, .bool false), (62, .bool false), (72, .bool ((((partE a u d false) : Nat) : Int) != 0))] (by kernel_rfl) rfl ?_
        cases hb38 : ((((partE a u d false) : Nat) : Int) != 0)
        · skip
          have hb38f : (((partE a u d false) : Nat) : Int) = 0 := by simpa using hb38
          refine GL.run (j := 7) 4 [0, 1, 2, 3, 8, 9, 10, 11, 12, 13, 14, 16, 47, 62, 76] [(0, .int .u64 (a : Int)), (1, .int .u64 (b : Int)), (2, .int .u64 (u : Int)), (3, .int .u64 (d : Int)), (8, .bool false), (9, .int .u64 (((partV a u d false) : Nat) : Int)), (10, .int .i64 (((partE a u d false) : Nat) : Int)), (11, .int .u64 (((partV a u d true) : Nat) : Int)), (12, .int .i64 (((partE a u d true) : Nat) : Int)), (13, .int .u64 (((partV b u d false) : Nat) : Int)), (14, .int .i64 (((partE b u d false) : Nat) : Int)), (16, .bool false), (47, .bool false), (62, .bool false), (76, .bool ((((partE b u d false) : Nat) : Int) != 0))] (by kernel_rfl) rfl ?_
          cases hb39 : ((((partE b u d false) : Nat) : Int) != 0)
          · skip
            have hb39f : (((partE b u d false) : Nat) : Int) = 0 := by simpa using hb39
            refine GL.run (j := 12) 5 [0, 1, 2, 3, 8, 9, 10, 11, 12, 13, 14, 16, 47, 62, 81] [(0, .int .u64 (a : Int)), (1, .int .u64 (b : Int)), (2, .int .u64 (u : Int)), (3, .int .u64 (d : Int)), (8, .bool false), (9, .int .u64 (((partV a u d false) : Nat) : Int)), (10, .int .i64 (((partE a u d false) : Nat) : Int)), (11, .int .u64 (((partV a u d true) : Nat) : Int)), (12, .int .i64 (((partE a u d true) : Nat) : Int)), (13, .int .u64 (((partV b u d false) : Nat) : Int)), (14, .int .i64 (((partE b u d false) : Nat) : Int)), (16, .bool false), (47, .bool false), (62, .bool false), (81, .bool (decide ((b : Int) < (a : Int))))] (by kernel_rfl) rfl ?_
            cases hb40 : (decide ((b : Int) < (a : Int)))
            · skip
              have hb40f := of_decide_eq_false hb40
              refine GL.run (j := 17) 5 [0, 1, 2, 3, 8, 9, 10, 11, 12, 13, 14, 16, 47, 62] [(0, .int .u64 (a : Int)), (1, .int .u64 (b : Int)), (2, .int .u64 (u : Int)), (3, .int .u64 (d : Int)), (8, .bool (decide ((((partV a u d false) : Nat) : Int) ≤ (((partV b u d false) : Nat) : Int)))), (9, .int .u64 (((partV a u d false) : Nat) : Int)), (10, .int .i64 (((partE a u d false) : Nat) : Int)), (11, .int .u64 (((partV a u d true) : Nat) : Int)), (12, .int .i64 (((partE a u d true) : Nat) : Int)), (13, .int .u64 (((partV b u d false) : Nat) : Int)), (14, .int .i64 (((partE b u d false) : Nat) : Int)), (16, .bool false), (47, .bool false), (62, .bool false)] (by kernel_rfl) rfl ?_
              refine GL.k rfl hK37 (fun _ _ h => h) ?_
              refine G.ret ?_
              intro F_ hF_ hM_
              refine hRet _ _ (bodyPost_1 rfl (RV.tmp rfl) ?_ F_ hF_ hM_)
              cases hb41 : (decide ((((partV a u d false) : Nat) : Int) ≤ (((partV b u d false) : Nat) : Int)))
              · skip
                have hb41f := of_decide_eq_false hb41
                exfalso
                omega
              · skip
                have hb41f := of_decide_eq_true hb41
                exact ⟨rfl, H34.sub (List.nil_sublist _)⟩
            · skip
              have hb40f := of_decide_eq_true hb40
              refine GL.run (j := 17) 5 [0, 1, 2, 3, 8, 9, 10, 11, 12, 13, 14, 16, 47, 62] [(0, .int .u64 (a : Int)), (1, .int .u64 (b : Int)), (2, .int .u64 (u : Int)), (3, .int .u64 (d : Int)), (8, .bool true), (9, .int .u64 (((partV a u d false) : Nat) : Int)), (10, .int .i64 (((partE a u d false) : Nat) : Int)), (11, .int .u64 (((partV a u d true) : Nat) : Int)), (12, .int .i64 (((partE a u d true) : Nat) : Int)), (13, .int .u64 (((partV b u d false) : Nat) : Int)), (14, .int .i64 (((partE b u d false) : Nat) : Int)), (16, .bool false), (47, .bool false), (62, .bool false)] (by kernel_rfl) rfl ?_
              refine GL.k rfl hK37 (fun _ _ h => h) ?_
              refine G.ret ?_
              intro F_ hF_ hM_
              refine hRet _ _ (bodyPost_1 rfl (RV.tmp rfl) ?_ F_ hF_ hM_)
              exact ⟨rfl, H34.sub (List.nil_sublist _)⟩
          · skip
            have hb39f : (((partE b u d false) : Nat) : Int) ≠ 0 := by simpa using hb39
            refine GL.run (j := 17) 10 [0, 1, 2, 3, 8, 9, 10, 11, 12, 13, 14, 16, 47, 62] [(0, .int .u64 (a : Int)), (1, .int .u64 (b : Int)), (2, .int .u64 (u : Int)), (3, .int .u64 (d : Int)), (8, .bool true), (9, .int .u64 (((partV a u d false) : Nat) : Int)), (10, .int .i64 (((partE a u d false) : Nat) : Int)), (11, .int .u64 (((partV a u d true) : Nat) : Int)), (12, .int .i64 (((partE a u d true) : Nat) : Int)), (13, .int .u64 (((partV b u d false) : Nat) : Int)), (14, .int .i64 (((partE b u d false) : Nat) : Int)), (16, .bool false), (47, .bool false), (62, .bool false)] (by kernel_rfl) rfl ?_
            refine GL.k rfl hK37 (fun _ _ h => h) ?_
            refine G.ret ?_
            intro F_ hF_ hM_
            refine hRet _ _ (bodyPost_1 rfl (RV.tmp rfl) ?_ F_ hF_ hM_)
            exact ⟨rfl, H34.sub (List.nil_sublist _)⟩
        · skip
          have hb38f : (((partE a u d false) : Nat) : Int) ≠ 0 := by simpa using hb38
          refine GL.run (j := 17) 14 [0, 1, 2, 3, 8, 9, 10, 11, 12, 13, 14, 16, 47, 62] [(0, .int .u64 (a : Int)), (1, .int .u64 (b : Int)), (2, .int .u64 (u : Int)), (3, .int .u64 (d : Int)), (8, .bool true), (9, .int .u64 (((partV a u d false) : Nat) : Int)), (10, .int .i64 (((partE a u d false) : Nat) : Int)), (11, .int .u64 (((partV a u d true) : Nat) : Int)), (12, .int .i64 (((partE a u d true) : Nat) : Int)), (13, .int .u64 (((partV b u d false) : Nat) : Int)), (14, .int .i64 (((partE b u d false) : Nat) : Int)), (16, .bool false), (47, .bool false), (62, .bool false)] (by kernel_rfl) rfl ?_
          refine GL.k rfl hK37 (fun _ _ h => h) ?_
          refine G.ret ?_
          intro F_ hF_ hM_
          refine hRet _ _ (bodyPost_1 rfl (RV.tmp rfl) ?_ F_ hF_ hM_)
          exact ⟨rfl, H34.sub (List.nil_sublist _)⟩
      · skip
        have hb30f : (((partE a u d false) : Nat) : Int) ≠ (((partE a u d true) : Nat) : Int) := by simpa using hb30
        refine GL.run (j := 15) 4 [0, 1, 2, 3, 8, 9, 10, 11, 12, 16, 47, 62] [(0, .int .u64 (a : Int)), (1, .int .u64 (b : Int)), (2, .int .u64 (u : Int)), (3, .int .u64 (d : Int)), (8, .bool false), (9, .int .u64 (((partV a u d false) : Nat) : Int)), (10, .int .i64 (((partE a u d false) : Nat) : Int)), (11, .int .u64 (((partV a u d true) : Nat) : Int)), (12, .int .i64 (((partE a u d true) : Nat) : Int)), (16, .bool false), (47, .bool false), (62, .bool ((((partE a u d true) : Nat) : Int) != 4))] (by kernel_rfl) rfl ?_
        refine GL.k rfl hK28 (fun _ _ h => h) ?_
        cases hb42 : ((((partE a u d true) : Nat) : Int) != 4)
        · skip
          have hb42f : (((partE a u d true) : Nat) : Int) = 4 := by simpa using hb42
          refine G.no rfl ?_
          refine G.skipK hK26 (fun _ _ h => h) ?_
          refine G.seqK fun K43 hK44 => ?_
          refine G.region ?_
          refine GL.run (j := 3) 3 [0, 1, 2, 3, 8, 9, 10, 11, 12, 16, 47, 62, 64, 65, 66] [(0, .int .u64 (a : Int)), (1, .int .u64 (b : Int)), (2, .int .u64 (u : Int)), (3, .int .u64 (d : Int)), (8, .bool false), (9, .int .u64 (((partV a u d false) : Nat) : Int)), (10, .int .i64 (((partE a u d false) : Nat) : Int)), (11, .int .u64 (((partV a u d true) : Nat) : Int)), (12, .int .i64 (((partE a u d true) : Nat) : Int)), (16, .bool false), (47, .bool false), (62, .bool false), (64, .int .u64 (b : Int)), (65, .int .u64 (u : Int)), (66, .int .u64 (d : Int))] (by kernel_rfl) rfl ?_
          refine GL.call (j := 4) (Part_downA b u d hb hu hd w17) (by kernel_rfl) rfl (fun e_ w45 hR => ?_)
          obtain ⟨rfl, H47⟩ := hR
          have H46 : Hp w [] [] w45 := H18.callNil H47
          refine ⟨_, rfl, [0, 1, 2, 3, 8, 9, 10, 11, 12, 16, 47, 62, 67], [(0, .int .u64 (a : Int)), (1, .int .u64 (b : Int)), (2, .int .u64 (u : Int)), (3, .int .u64 (d : Int)), (8, .bool false), (9, .int .u64 (((partV a u d false) : Nat) : Int)), (10, .int .i64 (((partE a u d false) : Nat) : Int)), (11, .int .u64 (((partV a u d true) : Nat) : Int)), (12, .int .i64 (((partE a u d true) : Nat) : Int)), (16, .bool false), (47, .bool false), (62, .bool false), (67, .tuple #[.int .u64 (((partV b u d false) : Nat) : Int), .int .i64 (((partE b u d false) : Nat) : Int)])], by kernel_rfl, ?_⟩
          refine GL.run (j := 9) 5 [0, 1, 2, 3, 8, 9, 10, 11, 12, 13, 14, 16, 47, 62] [(0, .int .u64 (a : Int)), (1, .int .u64 (b : Int)), (2, .int .u64 (u : Int)), (3, .int .u64 (d : Int)), (8, .bool false), (9, .int .u64 (((partV a u d false) : Nat) : Int)), (10, .int .i64 (((partE a u d false) : Nat) : Int)), (11, .int .u64 (((partV a u d true) : Nat) : Int)), (12, .int .i64 (((partE a u d true) : Nat) : Int)), (13, .int .u64 (((partV b u d false) : Nat) : Int)), (14, .int .i64 (((partE b u d false) : Nat) : Int)), (16, .bool false), (47, .bool false), (62, .bool false)] (by kernel_rfl) rfl ?_
          refine GL.k rfl hK44 (fun _ _ h => h) ?_
          refine G.seqK fun K48 hK49 => ?_
          refine G.region ?_
          refine GL.run (j := 3) 3 [0, 1, 2, 3, 8, 9, 10, 11, 12, 13, 14, 16, 47, 62, 72] [(0, .int .u64 (a : Int)), (1, .int .u64 (b : Int)), (2, .int .u64 (u : Int)), (3, .int .u64 (d : Int)), (8, .bool false), (9, .int .u64 (((partV a u d false) : Nat) : Int)), (10, .int .i64 (((partE a u d false) : Nat) : Int)), (11, .int .u64 (((partV a u d true) : Nat) : Int)), (12, .int .i64 (((partE a u d true) : Nat) : Int)), (13, .int .u64 (((partV b u d false) : Nat) : Int)), (14, .int .i64 (((partE b u d false) : Nat) : Int)), (16, .bool false), (47, .bool false), (62, .bool false), (72, .bool ((((partE a u d false) : Nat) : Int) != 0))] (by kernel_rfl) rfl ?_
          cases hb50 : ((((partE a u d false) : Nat) : Int) != 0)
          · skip
            have hb50f : (((partE a u d false) : Nat) : Int) = 0 := by simpa using hb50
            refine GL.run (j := 7) 4 [0, 1, 2, 3, 8, 9, 10, 11, 12, 13, 14, 16, 47, 62, 76] [(0, .int .u64 (a : Int)), (1, .int .u64 (b : Int)), (2, .int .u64 (u : Int)), (3, .int .u64 (d : Int)), (8, .bool false), (9, .int .u64 (((partV a u d false) : Nat) : Int)), (10, .int .i64 (((partE a u d false) : Nat) : Int)), (11, .int .u64 (((partV a u d true) : Nat) : Int)), (12, .int .i64 (((partE a u d true) : Nat) : Int)), (13, .int .u64 (((partV b u d false) : Nat) : Int)), (14, .int .i64 (((partE b u d false) : Nat) : Int)), (16, .bool false), (47, .bool false), (62, .bool false), (76, .bool ((((partE b u d false) : Nat) : Int) != 0))] (by kernel_rfl) rfl ?_
            cases hb51 : ((((partE b u d false) : Nat) : Int) != 0)
            · skip
              have hb51f : (((partE b u d false) : Nat) : Int) = 0 := by simpa using hb51
              refine GL.run (j := 12) 5 [0, 1, 2, 3, 8, 9, 10, 11, 12, 13, 14, 16, 47, 62, 81] [(0, .int .u64 (a : Int)), (1, .int .u64 (b : Int)), (2, .int .u64 (u : Int)), (3, .int .u64 (d : Int)), (8, .bool false), (9, .int .u64 (((partV a u d false) : Nat) : Int)), (10, .int .i64 (((partE a u d false) : Nat) : Int)), (11, .int .u64 (((partV a u d true) : Nat) : Int)), (12, .int .i64 (((partE a u d true) : Nat) : Int)), (13, .int .u64 (((partV b u d false) : Nat) : Int)), (14, .int .i64 (((partE b u d false) : Nat) : Int)), (16, .bool false), (47, .bool false), (62, .bool false), (81, .bool (decide ((b : Int) < (a : Int))))] (by kernel_rfl) rfl ?_
              cases hb52 : (decide ((b : Int) < (a : Int)))
              · skip
                have hb52f := of_decide_eq_false hb52
                refine GL.run (j := 17) 5 [0, 1, 2, 3, 8, 9, 10, 11, 12, 13, 14, 16, 47, 62] [(0, .int .u64 (a : Int)), (1, .int .u64 (b : Int)), (2, .int .u64 (u : Int)), (3, .int .u64 (d : Int)), (8, .bool (decide ((((partV a u d false) : Nat) : Int) ≤ (((partV b u d false) : Nat) : Int)))), (9, .int .u64 (((partV a u d false) : Nat) : Int)), (10, .int .i64 (((partE a u d false) : Nat) : Int)), (11, .int .u64 (((partV a u d true) : Nat) : Int)), (12, .int .i64 (((partE a u d true) : Nat) : Int)), (13, .int .u64 (((partV b u d false) : Nat) : Int)), (14, .int .i64 (((partE b u d false) : Nat) : Int)), (16, .bool false), (47, .bool false), (62, .bool false)] (by kernel_rfl) rfl ?_
                refine GL.k rfl hK49 (fun _ _ h => h) ?_
                refine G.ret ?_
                intro F_ hF_ hM_
                refine hRet _ _ (bodyPost_1 rfl (RV.tmp rfl) ?_ F_ hF_ hM_)
                cases hb53 : (decide ((((partV a u d false) : Nat) : Int) ≤ (((partV b u d false) : Nat) : Int)))
                · skip
                  have hb53f := of_decide_eq_false hb53
                  exfalso
                  omega
                · skip
                  have hb53f := of_decide_eq_true hb53
                  exact ⟨rfl, H46.sub (List.nil_sublist _)⟩
              · skip
                have hb52f := of_decide_eq_true hb52
                refine GL.run (j := 17) 5 [0, 1, 2, 3, 8, 9, 10, 11, 12, 13, 14, 16, 47, 62] [(0, .int .u64 (a : Int)), (1, .int .u64 (b : Int)), (2, .int .u64 (u : Int)), (3, .int .u64 (d : Int)), (8, .bool true), (9, .int .u64 (((partV a u d false) : Nat) : Int)), (10, .int .i64 (((partE a u d false) : Nat) : Int)), (11, .int .u64 (((partV a u d true) : Nat) : Int)), (12, .int .i64 (((partE a u d true) : Nat) : Int)), (13, .int .u64 (((partV b u d false) : Nat) : Int)), (14, .int .i64 (((partE b u d false) : Nat) : Int)), (16, .bool false), (47, .bool false), (62, .bool false)] (by kernel_rfl) rfl ?_
                refine GL.k rfl hK49 (fun _ _ h => h) ?_
                refine G.ret ?_
                intro F_ hF_ hM_
                refine hRet _ _ (bodyPost_1 rfl (RV.tmp rfl) ?_ F_ hF_ hM_)
                exact ⟨rfl, H46.sub (List.nil_sublist _)⟩
            · skip
              have hb51f : (((partE b u d false) : Nat) : Int) ≠ 0 := by simpa using hb51
              refine GL.run (j := 17) 10 [0, 1, 2, 3, 8, 9, 10, 11, 12, 13, 14, 16, 47, 62] [(0, .int .u64 (a : Int)), (1, .int .u64 (b : Int)), (2, .int .u64 (u : Int)), (3, .int .u64 (d : Int)), (8, .bool true), (9, .int .u64 (((partV a u d false) : Nat) : Int)), (10, .int .i64 (((partE a u d false) : Nat) : Int)), (11, .int .u64 (((partV a u d true) : Nat) : Int)), (12, .int .i64 (((partE a u d true) : Nat) : Int)), (13, .int .u64 (((partV b u d false) : Nat) : Int)), (14, .int .i64 (((partE b u d false) : Nat) : Int)), (16, .bool false), (47, .bool false), (62, .bool false)] (by kernel_rfl) rfl ?_
              refine GL.k rfl hK49 (fun _ _ h => h) ?_
              refine G.ret ?_
              intro F_ hF_ hM_
              refine hRet _ _ (bodyPost_1 rfl (RV.tmp rfl) ?_ F_ hF_ hM_)
              exact ⟨rfl, H46.sub (List.nil_sublist _)⟩
          · skip
            have hb50f : (((partE a u d false) : Nat) : Int) ≠ 0 := by simpa using hb50
            refine GL.run (j := 17) 14 [0, 1, 2, 3, 8, 9, 10, 11, 12, 13, 14, 16, 47, 62] [(0, .int .u64 (a : Int)), (1, .int .u64 (b : Int)), (2, .int .u64 (u : Int)), (3, .int .u64 (d : Int)), (8, .bool true), (9, .int .u64 (((partV a u d false) : Nat) : Int)), (10, .int .i64 (((partE a u d false) : Nat) : Int)), (11, .int .u64 (((partV a u d true) : Nat) : Int)), (12, .int .i64 (((partE a u d true) : Nat) : Int)), (13, .int .u64 (((partV b u d false) : Nat) : Int)), (14, .int .i64 (((partE b u d false) : Nat) : Int)), (16, .bool false), (47, .bool false), (62, .bool false)] (by kernel_rfl) rfl ?_
            refine GL.k rfl hK49 (fun _ _ h => h) ?_
            refine G.ret ?_
            intro F_ hF_ hM_
            refine hRet _ _ (bodyPost_1 rfl (RV.tmp rfl) ?_ F_ hF_ hM_)
            exact ⟨rfl, H46.sub (List.nil_sublist _)⟩
        · skip
          have hb42f : (((partE a u d true) : Nat) : Int) ≠ 4 := by simpa using hb42
          refine G.yes rfl ?_
          refine G.seqK fun K54 hK55 => ?_
          refine G.region ?_
          refine GL.run (j := 1) 1 [0, 1, 2, 3, 8, 9, 10, 11, 12, 16, 47, 62] [(0, .int .u64 (a : Int)), (1, .int .u64 (b : Int)), (2, .int .u64 (u : Int)), (3, .int .u64 (d : Int)), (8, .bool false), (9, .int .u64 (((partV a u d false) : Nat) : Int)), (10, .int .i64 (((partE a u d false) : Nat) : Int)), (11, .int .u64 (((partV a u d true) : Nat) : Int)), (12, .int .i64 (((partE a u d true) : Nat) : Int)), (16, .bool false), (47, .bool false), (62, .bool true)] (by kernel_rfl) rfl ?_
          refine GL.k rfl hK55 (fun _ _ h => h) ?_
          refine G.ret ?_
          intro F_ hF_ hM_
          refine hRet _ _ (bodyPost_1 rfl (RV.tmp rfl) ?_ F_ hF_ hM_)
          exfalso
          omega
    · skip
      have hb29f := eq_of_beq hb29
      refine GL.run (j := 7) 4 [0, 1, 2, 3, 8, 9, 10, 11, 12, 16, 47, 54] [(0, .int .u64 (a : Int)), (1, .int .u64 (b : Int)), (2, .int .u64 (u : Int)), (3, .int .u64 (d : Int)), (8, .bool false), (9, .int .u64 (((partV a u d false) : Nat) : Int)), (10, .int .i64 (((partE a u d false) : Nat) : Int)), (11, .int .u64 (((partV a u d true) : Nat) : Int)), (12, .int .i64 (((partE a u d true) : Nat) : Int)), (16, .bool false), (47, .bool false), (54, .bool ((((partE a u d false) : Nat) : Int) != 0))] (by kernel_rfl) rfl ?_
      cases hb56 : ((((partE a u d false) : Nat) : Int) != 0)
      · skip
        have hb56f : (((partE a u d false) : Nat) : Int) = 0 := by simpa using hb56
        refine GL.run (j := 11) 4 [0, 1, 2, 3, 8, 9, 10, 11, 12, 16, 47, 54, 58] [(0, .int .u64 (a : Int)), (1, .int .u64 (b : Int)), (2, .int .u64 (u : Int)), (3, .int .u64 (d : Int)), (8, .bool false), (9, .int .u64 (((partV a u d false) : Nat) : Int)), (10, .int .i64 (((partE a u d false) : Nat) : Int)), (11, .int .u64 (((partV a u d true) : Nat) : Int)), (12, .int .i64 (((partE a u d true) : Nat) : Int)), (16, .bool false), (47, .bool false), (54, .bool false), (58, .bool ((((partE a u d false) : Nat) : Int) != (((partE a u d true) : Nat) : Int)))] (by kernel_rfl) rfl ?_
        cases hb57 : ((((partE a u d false) : Nat) : Int) != (((partE a u d true) : Nat) : Int))
        · skip
          have hb57f : (((partE a u d false) : Nat) : Int) = (((partE a u d true) : Nat) : Int) := by simpa using hb57
          refine GL.run (j := 15) 4 [0, 1, 2, 3, 8, 9, 10, 11, 12, 16, 47, 62] [(0, .int .u64 (a : Int)), (1, .int .u64 (b : Int)), (2, .int .u64 (u : Int)), (3, .int .u64 (d : Int)), (8, .bool false), (9, .int .u64 (((partV a u d false) : Nat) : Int)), (10, .int .i64 (((partE a u d false) : Nat) : Int)), (11, .int .u64 (((partV a u d true) : Nat) : Int)), (12, .int .i64 (((partE a u d true) : Nat) : Int)), (16, .bool false), (47, .bool false), (62, .bool false)] (by kernel_rfl) rfl ?_
          refine GL.k rfl hK28 (fun _ _ h => h) ?_
          refine G.no rfl ?_
          refine G.skipK hK26 (fun _ _ h => h) ?_
          refine G.seqK fun K58 hK59 => ?_
          refine G.region ?_
          refine GL.run (j := 3) 3 [0, 1, 2, 3, 8, 9, 10, 11, 12, 16, 47, 62, 64, 65, 66] [(0, .int .u64 (a : Int)), (1, .int .u64 (b : Int)), (2, .int .u64 (u : Int)), (3, .int .u64 (d : Int)), (8, .bool false), (9, .int .u64 (((partV a u d false) : Nat) : Int)), (10, .int .i64 (((partE a u d false) : Nat) : Int)), (11, .int .u64 (((partV a u d true) : Nat) : Int)), (12, .int .i64 (((partE a u d true) : Nat) : Int)), (16, .bool false), (47, .bool false), (62, .bool false), (64, .int .u64 (b : Int)), (65, .int .u64 (u : Int)), (66, .int .u64 (d : Int))] (by kernel_rfl) rfl ?_
          refine GL.call (j := 4) (Part_downA b u d hb hu hd w17) (by kernel_rfl) rfl (fun e_ w60 hR => ?_)
          obtain ⟨rfl, H62⟩ := hR
          have H61 : Hp w [] [] w60 := H18.callNil H62
          refine ⟨_, rfl, [0, 1, 2, 3, 8, 9, 10, 11, 12, 16, 47, 62, 67], [(0, .int .u64 (a : Int)), (1, .int .u64 (b : Int)), (2, .int .u64 (u : Int)), (3, .int .u64 (d : Int)), (8, .bool false), (9, .int .u64 (((partV a u d false) : Nat) : Int)), (10, .int .i64 (((partE a u d false) : Nat) : Int)), (11, .int .u64 (((partV a u d true) : Nat) : Int)), (12, .int .i64 (((partE a u d true) : Nat) : Int)), (16, .bool false), (47, .bool false), (62, .bool false), (67, .tuple #[.int .u64 (((partV b u d false) : Nat) : Int), .int .i64 (((partE b u d false) : Nat) : Int)])], by kernel_rfl, ?_⟩
          refine GL.run (j := 9) 5 [0, 1, 2, 3, 8, 9, 10, 11, 12, 13, 14, 16, 47, 62] [(0, .int .u64 (a : Int)), (1, .int .u64 (b : Int)), (2, .int .u64 (u : Int)), (3, .int .u64 (d : Int)), (8, .bool false), (9, .int .u64 (((partV a u d false) : Nat) : Int)), (10, .int .i64 (((partE a u d false) : Nat) : Int)), (11, .int .u64 (((partV a u d true) : Nat) : Int)), (12, .int .i64 (((partE a u d true) : Nat) : Int)), (13, .int .u64 (((partV b u d false) : Nat) : Int)), (14, .int .i64 (((partE b u d false) : Nat) : Int)), (16, .bool false), (47, .bool false), (62, .bool false)] (by kernel_rfl) rfl ?_
          refine GL.k rfl hK59 (fun _ _ h => h) ?_
          refine G.seqK fun K63 hK64 => ?_
          refine G.region ?_
          refine GL.run (j := 3) 3 [0, 1, 2, 3, 8, 9, 10, 11, 12, 13, 14, 16, 47, 62, 72] [(0, .int .u64 (a : Int)), (1, .int .u64 (b : Int)), (2, .int .u64 (u : Int)), (3, .int .u64 (d : Int)), (8, .bool false), (9, .int .u64 (((partV a u d false) : Nat) : Int)), (10, .int .i64 (((partE a u d false) : Nat) : Int)), (11, .int .u64 (((partV a u d true) : Nat) : Int)), (12, .int .i64 (((partE a u d true) : Nat) : Int)), (13, .int .u64 (((partV b u d false) : Nat) : Int)), (14, .int .i64 (((partE b u d false) : Nat) : Int)), (16, .bool false), (47, .bool false), (62, .bool false), (72, .bool ((((partE a u d false) : Nat) : Int) != 0))] (by kernel_rfl) rfl ?_
          have hb65 : ((((partE a u d false) : Nat) : Int) != 0) = false := by assumption
          rw [hb65]
          refine GL.run (j := 7) 4 [0, 1, 2, 3, 8, 9, 10, 11, 12, 13, 14, 16, 47, 62, 76] [(0, .int .u64 (a : Int)), (1, .int .u64 (b : Int)), (2, .int .u64 (u : Int)), (3, .int .u64 (d : Int)), (8, .bool false), (9, .int .u64 (((partV a u d false) : Nat) : Int)), (10, .int .i64 (((partE a u d false) : Nat) : Int)), (11, .int .u64 (((partV a u d true) : Nat) : Int)), (12, .int .i64 (((partE a u d true) : Nat) : Int)), (13, .int .u64 (((partV b u d false) : Nat) : Int)), (14, .int .i64 (((partE b u d false) : Nat) : Int)), (16, .bool false), (47, .bool false), (62, .bool false), (76, .bool ((((partE b u d false) : Nat) : Int) != 0))] (by kernel_rfl) rfl ?_
          cases hb66 : ((((partE b u d false) : Nat) : Int) != 0)
          · skip
            have hb66f : (((partE b u d false) : Nat) : Int) = 0 := by simpa using hb66
            refine GL.run (j := 12) 5 [0, 1, 2, 3, 8, 9, 10, 11, 12, 13, 14, 16, 47, 62, 81] [(0, .int .u64 (a : Int)), (1, .int .u64 (b : Int)), (2, .int .u64 (u : Int)), (3, .int .u64 (d : Int)), (8, .bool false), (9, .int .u64 (((partV a u d false) : Nat) : Int)), (10, .int .i64 (((partE a u d false) : Nat) : Int)), (11, .int .u64 (((partV a u d true) : Nat) : Int)), (12, .int .i64 (((partE a u d true) : Nat) : Int)), (13, .int .u64 (((partV b u d false) : Nat) : Int)), (14, .int .i64 (((partE b u d false) : Nat) : Int)), (16, .bool false), (47, .bool false), (62, .bool false), (81, .bool (decide ((b : Int) < (a : Int))))] (by kernel_rfl) rfl ?_
            cases hb67 : (decide ((b : Int) < (a : Int)))
            · skip
              have hb67f := of_decide_eq_false hb67
              refine GL.run (j := 17) 5 [0, 1, 2, 3, 8, 9, 10, 11, 12, 13, 14, 16, 47, 62] [(0, .int .u64 (a : Int)), (1, .int .u64 (b : Int)), (2, .int .u64 (u : Int)), (3, .int .u64 (d : Int)), (8, .bool (decide ((((partV a u d false) : Nat) : Int) ≤ (((partV b u d false) : Nat) : Int)))), (9, .int .u64 (((partV a u d false) : Nat) : Int)), (10, .int .i64 (((partE a u d false) : Nat) : Int)), (11, .int .u64 (((partV a u d true) : Nat) : Int)), (12, .int .i64 (((partE a u d true) : Nat) : Int)), (13, .int .u64 (((partV b u d false) : Nat) : Int)), (14, .int .i64 (((partE b u d false) : Nat) : Int)), (16, .bool false), (47, .bool false), (62, .bool false)] (by kernel_rfl) rfl ?_
              refine GL.k rfl hK64 (fun _ _ h => h) ?_
              refine G.ret ?_
              intro F_ hF_ hM_
              refine hRet _ _ (bodyPost_1 rfl (RV.tmp rfl) ?_ F_ hF_ hM_)
              cases hb68 : (decide ((((partV a u d false) : Nat) : Int) ≤ (((partV b u d false) : Nat) : Int)))
              · skip
                have hb68f := of_decide_eq_false hb68
                exfalso
                omega
              · skip
                have hb68f := of_decide_eq_true hb68
                exact ⟨rfl, H61.sub (List.nil_sublist _)⟩
            · skip
              have hb67f := of_decide_eq_true hb67
              refine GL.run (j := 17) 5 [0, 1, 2, 3, 8, 9, 10, 11, 12, 13, 14, 16, 47, 62] [(0, .int .u64 (a : Int)), (1, .int .u64 (b : Int)), (2, .int .u64 (u : Int)), (3, .int .u64 (d : Int)), (8, .bool true), (9, .int .u64 (((partV a u d false) : Nat) : Int)), (10, .int .i64 (((partE a u d false) : Nat) : Int)), (11, .int .u64 (((partV a u d true) : Nat) : Int)), (12, .int .i64 (((partE a u d true) : Nat) : Int)), (13, .int .u64 (((partV b u d false) : Nat) : Int)), (14, .int .i64 (((partE b u d false) : Nat) : Int)), (16, .bool false), (47, .bool false), (62, .bool false)] (by kernel_rfl) rfl ?_
              refine GL.k rfl hK64 (fun _ _ h => h) ?_
              refine G.ret ?_
              intro F_ hF_ hM_
              refine hRet _ _ (bodyPost_1 rfl (RV.tmp rfl) ?_ F_ hF_ hM_)
              exact ⟨rfl, H61.sub (List.nil_sublist _)⟩
          · skip
            have hb66f : (((partE b u d false) : Nat) : Int) ≠ 0 := by simpa using hb66
            refine GL.run (j := 17) 10 [0, 1, 2, 3, 8, 9, 10, 11, 12, 13, 14, 16, 47, 62] [(0, .int .u64 (a : Int)), (1, .int .u64 (b : Int)), (2, .int .u64 (u : Int)), (3, .int .u64 (d : Int)), (8, .bool true), (9, .int .u64 (((partV a u d false) : Nat) : Int)), (10, .int .i64 (((partE a u d false) : Nat) : Int)), (11, .int .u64 (((partV a u d true) : Nat) : Int)), (12, .int .i64 (((partE a u d true) : Nat) : Int)), (13, .int .u64 (((partV b u d false) : Nat) : Int)), (14, .int .i64 (((partE b u d false) : Nat) : Int)), (16, .bool false), (47, .bool false), (62, .bool false)] (by kernel_rfl) rfl ?_
            refine GL.k rfl hK64 (fun _ _ h => h) ?_
            refine G.ret ?_
            intro F_ hF_ hM_
            refine hRet _ _ (bodyPost_1 rfl (RV.tmp rfl) ?_ F_ hF_ hM_)
            exact ⟨rfl, H61.sub (List.nil_sublist _)⟩
        · skip
          have hb57f : (((partE a u d false) : Nat) : Int) ≠ (((partE a u d true) : Nat) : Int) := by simpa using hb57
          refine GL.run (j := 15) 4 [0, 1, 2, 3, 8, 9, 10, 11, 12, 16, 47, 62] [(0, .int .u64 (a : Int)), (1, .int .u64 (b : Int)), (2, .int .u64 (u : Int)), (3, .int .u64 (d : Int)), (8, .bool false), (9, .int .u64 (((partV a u d false) : Nat) : Int)), (10, .int .i64 (((partE a u d false) : Nat) : Int)), (11, .int .u64 (((partV a u d true) : Nat) : Int)), (12, .int .i64 (((partE a u d true) : Nat) : Int)), (16, .bool false), (47, .bool false), (62, .bool ((((partE a u d true) : Nat) : Int) != 4))] (by kernel_rfl) rfl ?_
          refine GL.k rfl hK28 (fun _ _ h => h) ?_
          cases hb69 : ((((partE a u d true) : Nat) : Int) != 4)
          · skip
            have hb69f : (((partE a u d true) : Nat) : Int) = 4 := by simpa using hb69
            refine G.no rfl ?_
            refine G.skipK hK26 (fun _ _ h => h) ?_
            refine G.seqK fun K70 hK71 => ?_
            refine G.region ?_
            refine GL.run (j := 3) 3 [0, 1, 2, 3, 8, 9, 10, 11, 12, 16, 47, 62, 64, 65, 66] [(0, .int .u64 (a : Int)), (1, .int .u64 (b : Int)), (2, .int .u64 (u : Int)), (3, .int .u64 (d : Int)), (8, .bool false), (9, .int .u64 (((partV a u d false) : Nat) : Int)), (10, .int .i64 (((partE a u d false) : Nat) : Int)), (11, .int .u64 (((partV a u d true) : Nat) : Int)), (12, .int .i64 (((partE a u d true) : Nat) : Int)), (16, .bool false), (47, .bool false), (62, .bool false), (64, .int .u64 (b : Int)), (65, .int .u64 (u : Int)), (66, .int .u64 (d : Int))] (by kernel_rfl) rfl ?_
            refine GL.call (j := 4) (Part_downA b u d hb hu hd w17) (by kernel_rfl) rfl (fun e_ w72 hR => ?_)
            obtain ⟨rfl, H74⟩ := hR
            have H73 : Hp w [] [] w72 := H18.callNil H74
            refine ⟨_, rfl, [0, 1, 2, 3, 8, 9, 10, 11, 12, 16, 47, 62, 67], [(0, .int .u64 (a : Int)), (1, .int .u64 (b : Int)), (2, .int .u64 (u : Int)), (3, .int .u64 (d : Int)), (8, .bool false), (9, .int .u64 (((partV a u d false) : Nat) : Int)), (10, .int .i64 (((partE a u d false) : Nat) : Int)), (11, .int .u64 (((partV a u d true) : Nat) : Int)), (12, .int .i64 (((partE a u d true) : Nat) : Int)), (16, .bool false), (47, .bool false), (62, .bool false), (67, .tuple #[.int .u64 (((partV b u d false) : Nat) : Int), .int .i64 (((partE b u d false) : Nat) : Int)])], by kernel_rfl, ?_⟩
            refine GL.run (j := 9) 5 [0, 1, 2, 3, 8, 9, 10, 11, 12, 13, 14, 16, 47, 62] [(0, .int .u64 (a : Int)), (1, .int .u64 (b : Int)), (2, .int .u64 (u : Int)), (3, .int .u64 (d : Int)), (8, .bool false), (9, .int .u64 (((partV a u d false) : Nat) : Int)), (10, .int .i64 (((partE a u d false) : Nat) : Int)), (11, .int .u64 (((partV a u d true) : Nat) : Int)), (12, .int .i64 (((partE a u d true) : Nat) : Int)), (13, .int .u64 (((partV b u d false) : Nat) : Int)), (14, .int .i64 (((partE b u d false) : Nat) : Int)), (16, .bool false), (47, .bool false), (62, .bool false)] (by kernel_rfl) rfl ?_
            refine GL.k rfl hK71 (fun _ _ h => h) ?_
            refine G.seqK fun K75 hK76 => ?_
            refine G.region ?_
            refine GL.run (j := 3) 3 [0, 1, 2, 3, 8, 9, 10, 11, 12, 13, 14, 16, 47, 62, 72] [(0, .int .u64 (a : Int)), (1, .int .u64 (b : Int)), (2, .int .u64 (u : Int)), (3, .int .u64 (d : Int)), (8, .bool false), (9, .int .u64 (((partV a u d false) : Nat) : Int)), (10, .int .i64 (((partE a u d false) : Nat) : Int)), (11, .int .u64 (((partV a u d true) : Nat) : Int)), (12, .int .i64 (((partE a u d true) : Nat) : Int)), (13, .int .u64 (((partV b u d false) : Nat) : Int)), (14, .int .i64 (((partE b u d false) : Nat) : Int)), (16, .bool false), (47, .bool false), (62, .bool false), (72, .bool ((((partE a u d false) : Nat) : Int) != 0))] (by kernel_rfl) rfl ?_
            have hb77 : ((((partE a u d false) : Nat) : Int) != 0) = false := by assumption
            rw [hb77]
            refine GL.run (j := 7) 4 [0, 1, 2, 3, 8, 9, 10, 11, 12, 13, 14, 16, 47, 62, 76] [(0, .int .u64 (a : Int)), (1, .int .u64 (b : Int)), (2, .int .u64 (u : Int)), (3, .int .u64 (d : Int)), (8, .bool false), (9, .int .u64 (((partV a u d false) : Nat) : Int)), (10, .int .i64 (((partE a u d false) : Nat) : Int)), (11, .int .u64 (((partV a u d true) : Nat) : Int)), (12, .int .i64 (((partE a u d true) : Nat) : Int)), (13, .int .u64 (((partV b u d false) : Nat) : Int)), (14, .int .i64 (((partE b u d false) : Nat) : Int)), (16, .bool false), (47, .bool false), (62, .bool false), (76, .bool ((((partE b u d false) : Nat) : Int) != 0))] (by kernel_rfl) rfl ?_
            cases hb78 : ((((partE b u d false) : Nat) : Int) != 0)
            · skip
              have hb78f : (((partE b u d false) : Nat) : Int) = 0 := by simpa using hb78
              refine GL.run (j := 12) 5 [0, 1, 2, 3, 8, 9, 10, 11, 12, 13, 14, 16, 47, 62, 81] [(0, .int .u64 (a : Int)), (1, .int .u64 (b : Int)), (2, .int .u64 (u : Int)), (3, .int .u64 (d : Int)), (8, .bool false), (9, .int .u64 (((partV a u d false) : Nat) : Int)), (10, .int .i64 (((partE a u d false) : Nat) : Int)), (11, .int .u64 (((partV a u d true) : Nat) : Int)), (12, .int .i64 (((partE a u d true) : Nat) : Int)), (13, .int .u64 (((partV b u d false) : Nat) : Int)), (14, .int .i64 (((partE b u d false) : Nat) : Int)), (16, .bool false), (47, .bool false), (62, .bool false), (81, .bool (decide ((b : Int) < (a : Int))))] (by kernel_rfl) rfl ?_
              cases hb79 : (decide ((b : Int) < (a : Int)))
              · skip
                have hb79f := of_decide_eq_false hb79
                refine GL.run (j := 17) 5 [0, 1, 2, 3, 8, 9, 10, 11, 12, 13, 14, 16, 47, 62] [(0, .int .u64 (a : Int)), (1, .int .u64 (b : Int)), (2, .int .u64 (u : Int)), (3, .int .u64 (d : Int)), (8, .bool (decide ((((partV a u d false) : Nat) : Int) ≤ (((partV b u d false) : Nat) : Int)))), (9, .int .u64 (((partV a u d false) : Nat) : Int)), (10, .int .i64 (((partE a u d false) : Nat) : Int)), (11, .int .u64 (((partV a u d true) : Nat) : Int)), (12, .int .i64 (((partE a u d true) : Nat) : Int)), (13, .int .u64 (((partV b u d false) : Nat) : Int)), (14, .int .i64 (((partE b u d false) : Nat) : Int)), (16, .bool false), (47, .bool false), (62, .bool false)] (by kernel_rfl) rfl ?_
                refine GL.k rfl hK76 (fun _ _ h => h) ?_
                refine G.ret ?_
                intro F_ hF_ hM_
                refine hRet _ _ (bodyPost_1 rfl (RV.tmp rfl) ?_ F_ hF_ hM_)
                cases hb80 : (decide ((((partV a u d false) : Nat) : Int) ≤ (((partV b u d false) : Nat) : Int)))
                · skip
                  have hb80f := of_decide_eq_false hb80
                  exfalso
                  omega
                · skip
                  have hb80f := of_decide_eq_true hb80
                  exact ⟨rfl, H73.sub (List.nil_sublist _)⟩
              · skip
                have hb79f := of_decide_eq_true hb79
                refine GL.run (j := 17) 5 [0, 1, 2, 3, 8, 9, 10, 11, 12, 13, 14, 16, 47, 62] [(0, .int .u64 (a : Int)), (1, .int .u64 (b : Int)), (2, .int .u64 (u : Int)), (3, .int .u64 (d : Int)), (8, .bool true), (9, .int .u64 (((partV a u d false) : Nat) : Int)), (10, .int .i64 (((partE a u d false) : Nat) : Int)), (11, .int .u64 (((partV a u d true) : Nat) : Int)), (12, .int .i64 (((partE a u d true) : Nat) : Int)), (13, .int .u64 (((partV b u d false) : Nat) : Int)), (14, .int .i64 (((partE b u d false) : Nat) : Int)), (16, .bool false), (47, .bool false), (62, .bool false)] (by kernel_rfl) rfl ?_
                refine GL.k rfl hK76 (fun _ _ h => h) ?_
                refine G.ret ?_
                intro F_ hF_ hM_
                refine hRet _ _ (bodyPost_1 rfl (RV.tmp rfl) ?_ F_ hF_ hM_)
                exact ⟨rfl, H73.sub (List.nil_sublist _)⟩
            · skip
              have hb78f : (((partE b u d false) : Nat) : Int) ≠ 0 := by simpa using hb78
              refine GL.run (j := 17) 10 [0, 1, 2, 3, 8, 9, 10, 11, 12, 13, 14, 16, 47, 62] [(0, .int .u64 (a : Int)), (1, .int .u64 (b : Int)), (2, .int .u64 (u : Int)), (3, .int .u64 (d : Int)), (8, .bool true), (9, .int .u64 (((partV a u d false) : Nat) : Int)), (10, .int .i64 (((partE a u d false) : Nat) : Int)), (11, .int .u64 (((partV a u d true) : Nat) : Int)), (12, .int .i64 (((partE a u d true) : Nat) : Int)), (13, .int .u64 (((partV b u d false) : Nat) : Int)), (14, .int .i64 (((partE b u d false) : Nat) : Int)), (16, .bool false), (47, .bool false), (62, .bool false)] (by kernel_rfl) rfl ?_
              refine GL.k rfl hK76 (fun _ _ h => h) ?_
              refine G.ret ?_
              intro F_ hF_ hM_
              refine hRet _ _ (bodyPost_1 rfl (RV.tmp rfl) ?_ F_ hF_ hM_)
              exact ⟨rfl, H73.sub (List.nil_sublist _)⟩
          · skip
            have hb69f : (((partE a u d true) : Nat) : Int) ≠ 4 := by simpa using hb69
            refine G.yes rfl ?_
            refine G.seqK fun K81 hK82 => ?_
            refine G.region ?_
            refine GL.run (j := 1) 1 [0, 1, 2, 3, 8, 9, 10, 11, 12, 16, 47, 62] [(0, .int .u64 (a : Int)), (1, .int .u64 (b : Int)), (2, .int .u64 (u : Int)), (3, .int .u64 (d : Int)), (8, .bool false), (9, .int .u64 (((partV a u d false) : Nat) : Int)), (10, .int .i64 (((partE a u d false) : Nat) : Int)), (11, .int .u64 (((partV a u d true) : Nat) : Int)), (12, .int .i64 (((partE a u d true) : Nat) : Int)), (16, .bool false), (47, .bool false), (62, .bool true)] (by kernel_rfl) rfl ?_
            refine GL.k rfl hK82 (fun _ _ h => h) ?_
            refine G.ret ?_
            intro F_ hF_ hM_
            refine hRet _ _ (bodyPost_1 rfl (RV.tmp rfl) ?_ F_ hF_ hM_)
            exfalso
            omega
      · skip
        have hb56f : (((partE a u d false) : Nat) : Int) ≠ 0 := by simpa using hb56
        refine GL.run (j := 15) 8 [0, 1, 2, 3, 8, 9, 10, 11, 12, 16, 47, 62] [(0, .int .u64 (a : Int)), (1, .int .u64 (b : Int)), (2, .int .u64 (u : Int)), (3, .int .u64 (d : Int)), (8, .bool false), (9, .int .u64 (((partV a u d false) : Nat) : Int)), (10, .int .i64 (((partE a u d false) : Nat) : Int)), (11, .int .u64 (((partV a u d true) : Nat) : Int)), (12, .int .i64 (((partE a u d true) : Nat) : Int)), (16, .bool false), (47, .bool false), (62, .bool true)] (by kernel_rfl) rfl ?_
        refine GL.k rfl hK28 (fun _ _ h => h) ?_
        refine G.yes rfl ?_
        refine G.seqK fun K83 hK84 => ?_
        refine G.region ?_
        refine GL.run (j := 1) 1 [0, 1, 2, 3, 8, 9, 10, 11, 12, 16, 47, 62] [(0, .int .u64 (a : Int)), (1, .int .u64 (b : Int)), (2, .int .u64 (u : Int)), (3, .int .u64 (d : Int)), (8, .bool false), (9, .int .u64 (((partV a u d false) : Nat) : Int)), (10, .int .i64 (((partE a u d false) : Nat) : Int)), (11, .int .u64 (((partV a u d true) : Nat) : Int)), (12, .int .i64 (((partE a u d true) : Nat) : Int)), (16, .bool false), (47, .bool false), (62, .bool true)] (by kernel_rfl) rfl ?_
        refine GL.k rfl hK84 (fun _ _ h => h) ?_
        refine G.ret ?_
        intro F_ hF_ hM_
        refine hRet _ _ (bodyPost_1 rfl (RV.tmp rfl) ?_ F_ hF_ hM_)
        exfalso
        omega
  · skip
    have hb24f := eq_of_beq hb24
    refine GL.run (j := 7) 4 [0, 1, 2, 3, 8, 9, 10, 11, 12, 16, 37] [(0, .int .u64 (a : Int)), (1, .int .u64 (b : Int)), (2, .int .u64 (u : Int)), (3, .int .u64 (d : Int)), (8, .bool false), (9, .int .u64 (((partV a u d false) : Nat) : Int)), (10, .int .i64 (((partE a u d false) : Nat) : Int)), (11, .int .u64 (((partV a u d true) : Nat) : Int)), (12, .int .i64 (((partE a u d true) : Nat) : Int)), (16, .bool false), (37, .bool ((((partE a u d true) : Nat) : Int) == 0))] (by kernel_rfl) rfl ?_
    cases hb85 : ((((partE a u d true) : Nat) : Int) == 0)
    · skip
      have hb85f := ne_of_beq_false hb85
      refine GL.run (j := 17) 10 [0, 1, 2, 3, 8, 9, 10, 11, 12, 16, 47] [(0, .int .u64 (a : Int)), (1, .int .u64 (b : Int)), (2, .int .u64 (u : Int)), (3, .int .u64 (d : Int)), (8, .bool false), (9, .int .u64 (((partV a u d false) : Nat) : Int)), (10, .int .i64 (((partE a u d false) : Nat) : Int)), (11, .int .u64 (((partV a u d true) : Nat) : Int)), (12, .int .i64 (((partE a u d true) : Nat) : Int)), (16, .bool false), (47, .bool false)] (by kernel_rfl) rfl ?_
      refine GL.k rfl hK23 (fun _ _ h => h) ?_
      refine G.no rfl ?_
      refine G.skipK hK21 (fun _ _ h => h) ?_
      refine G.seqK fun K86 hK87 => ?_
      refine G.seqK fun K88 hK89 => ?_
      refine G.region ?_
      refine GL.run (j := 3) 3 [0, 1, 2, 3, 8, 9, 10, 11, 12, 16, 47, 50] [(0, .int .u64 (a : Int)), (1, .int .u64 (b : Int)), (2, .int .u64 (u : Int)), (3, .int .u64 (d : Int)), (8, .bool false), (9, .int .u64 (((partV a u d false) : Nat) : Int)), (10, .int .i64 (((partE a u d false) : Nat) : Int)), (11, .int .u64 (((partV a u d true) : Nat) : Int)), (12, .int .i64 (((partE a u d true) : Nat) : Int)), (16, .bool false), (47, .bool false), (50, .bool ((((partE a u d true) : Nat) : Int) == 0))] (by kernel_rfl) rfl ?_
      have hb90 : ((((partE a u d true) : Nat) : Int) == 0) = false := by assumption
      rw [hb90]
      refine GL.run (j := 11) 8 [0, 1, 2, 3, 8, 9, 10, 11, 12, 16, 47, 54, 58] [(0, .int .u64 (a : Int)), (1, .int .u64 (b : Int)), (2, .int .u64 (u : Int)), (3, .int .u64 (d : Int)), (8, .bool false), (9, .int .u64 (((partV a u d false) : Nat) : Int)), (10, .int .i64 (((partE a u d false) : Nat) : Int)), (11, .int .u64 (((partV a u d true) : Nat) : Int)), (12, .int .i64 (((partE a u d true) : Nat) : Int)), (16, .bool false), (47, .bool false), (54, .bool false), (58, .bool ((((partE a u d false) : Nat) : Int) != (((partE a u d true) : Nat) : Int)))] (by kernel_rfl) rfl ?_
      cases hb91 : ((((partE a u d false) : Nat) : Int) != (((partE a u d true) : Nat) : Int))
      · skip
        have hb91f : (((partE a u d false) : Nat) : Int) = (((partE a u d true) : Nat) : Int) := by simpa using hb91
        refine GL.run (j := 15) 4 [0, 1, 2, 3, 8, 9, 10, 11, 12, 16, 47, 62] [(0, .int .u64 (a : Int)), (1, .int .u64 (b : Int)), (2, .int .u64 (u : Int)), (3, .int .u64 (d : Int)), (8, .bool false), (9, .int .u64 (((partV a u d false) : Nat) : Int)), (10, .int .i64 (((partE a u d false) : Nat) : Int)), (11, .int .u64 (((partV a u d true) : Nat) : Int)), (12, .int .i64 (((partE a u d true) : Nat) : Int)), (16, .bool false), (47, .bool false), (62, .bool false)] (by kernel_rfl) rfl ?_
        refine GL.k rfl hK89 (fun _ _ h => h) ?_
        refine G.no rfl ?_
        refine G.skipK hK87 (fun _ _ h => h) ?_
        refine G.seqK fun K92 hK93 => ?_
        refine G.region ?_
        refine GL.run (j := 3) 3 [0, 1, 2, 3, 8, 9, 10, 11, 12, 16, 47, 62, 64, 65, 66] [(0, .int .u64 (a : Int)), (1, .int .u64 (b : Int)), (2, .int .u64 (u : Int)), (3, .int .u64 (d : Int)), (8, .bool false), (9, .int .u64 (((partV a u d false) : Nat) : Int)), (10, .int .i64 (((partE a u d false) : Nat) : Int)), (11, .int .u64 (((partV a u d true) : Nat) : Int)), (12, .int .i64 (((partE a u d true) : Nat) : Int)), (16, .bool false), (47, .bool false), (62, .bool false), (64, .int .u64 (b : Int)), (65, .int .u64 (u : Int)), (66, .int .u64 (d : Int))] (by kernel_rfl) rfl ?_
        refine GL.call (j := 4) (Part_downA b u d hb hu hd w17) (by kernel_rfl) rfl (fun e_ w94 hR => ?_)
        obtain ⟨rfl, H96⟩ := hR
        have H95 : Hp w [] [] w94 := H18.callNil H96
        refine ⟨_, rfl, [0, 1, 2, 3, 8, 9, 10, 11, 12, 16, 47, 62, 67], [(0, .int .u64 (a : Int)), (1, .int .u64 (b : Int)), (2, .int .u64 (u : Int)), (3, .int .u64 (d : Int)), (8, .bool false), (9, .int .u64 (((partV a u d false) : Nat) : Int)), (10, .int .i64 (((partE a u d false) : Nat) : Int)), (11, .int .u64 (((partV a u d true) : Nat) : Int)), (12, .int .i64 (((partE a u d true) : Nat) : Int)), (16, .bool false), (47, .bool false), (62, .bool false), (67, .tuple #[.int .u64 (((partV b u d false) : Nat) : Int), .int .i64 (((partE b u d false) : Nat) : Int)])], by kernel_rfl, ?_⟩
        refine GL.run (j := 9) 5 [0, 1, 2, 3, 8, 9, 10, 11, 12, 13, 14, 16, 47, 62] [(0, .int .u64 (a : Int)), (1, .int .u64 (b : Int)), (2, .int .u64 (u : Int)), (3, .int .u64 (d : Int)), (8, .bool false), (9, .int .u64 (((partV a u d false) : Nat) : Int)), (10, .int .i64 (((partE a u d false) : Nat) : Int)), (11, .int .u64 (((partV a u d true) : Nat) : Int)), (12, .int .i64 (((partE a u d true) : Nat) : Int)), (13, .int .u64 (((partV b u d false) : Nat) : Int)), (14, .int .i64 (((partE b u d false) : Nat) : Int)), (16, .bool false), (47, .bool false), (62, .bool false)] (by kernel_rfl) rfl ?_
        refine GL.k rfl hK93 (fun _ _ h => h) ?_
        refine G.seqK fun K97 hK98 => ?_
        refine G.region ?_
        refine GL.run (j := 3) 3 [0, 1, 2, 3, 8, 9, 10, 11, 12, 13, 14, 16, 47, 62, 72] [(0, .int .u64 (a : Int)), (1, .int .u64 (b : Int)), (2, .int .u64 (u : Int)), (3, .int .u64 (d : Int)), (8, .bool false), (9, .int .u64 (((partV a u d false) : Nat) : Int)), (10, .int .i64 (((partE a u d false) : Nat) : Int)), (11, .int .u64 (((partV a u d true) : Nat) : Int)), (12, .int .i64 (((partE a u d true) : Nat) : Int)), (13, .int .u64 (((partV b u d false) : Nat) : Int)), (14, .int .i64 (((partE b u d false) : Nat) : Int)), (16, .bool false), (47, .bool false), (62, .bool false), (72, .bool ((((partE a u d false) : Nat) : Int) != 0))] (by kernel_rfl) rfl ?_
        cases hb99 : ((((partE a u d false) : Nat) : Int) != 0)
        · skip
          have hb99f : (((partE a u d false) : Nat) : Int) = 0 := by simpa using hb99
          refine GL.run (j := 7) 4 [0, 1, 2, 3, 8, 9, 10, 11, 12, 13, 14, 16, 47, 62, 76] [(0, .int .u64 (a : Int)), (1, .int .u64 (b : Int)), (2, .int .u64 (u : Int)), (3, .int .u64 (d : Int)), (8, .bool false), (9, .int .u64 (((partV a u d false) : Nat) : Int)), (10, .int .i64 (((partE a u d false) : Nat) : Int)), (11, .int .u64 (((partV a u d true) : Nat) : Int)), (12, .int .i64 (((partE a u d true) : Nat) : Int)), (13, .int .u64 (((partV b u d false) : Nat) : Int)), (14, .int .i64 (((partE b u d false) : Nat) : Int)), (16, .bool false), (47, .bool false), (62, .bool false), (76, .bool ((((partE b u d false) : Nat) : Int) != 0))] (by kernel_rfl) rfl ?_
          cases hb100 : ((((partE b u d false) : Nat) : Int) != 0)
          · skip
            have hb100f : (((partE b u d false) : Nat) : Int) = 0 := by simpa using hb100
            refine GL.run (j := 12) 5 [0, 1, 2, 3, 8, 9, 10, 11, 12, 13, 14, 16, 47, 62, 81] [(0, .int .u64 (a : Int)), (1, .int .u64 (b : Int)), (2, .int .u64 (u : Int)), (3, .int .u64 (d : Int)), (8, .bool false), (9, .int .u64 (((partV a u d false) : Nat) : Int)), (10, .int .i64 (((partE a u d false) : Nat) : Int)), (11, .int .u64 (((partV a u d true) : Nat) : Int)), (12, .int .i64 (((partE a u d true) : Nat) : Int)), (13, .int .u64 (((partV b u d false) : Nat) : Int)), (14, .int .i64 (((partE b u d false) : Nat) : Int)), (16, .bool false), (47, .bool false), (62, .bool false), (81, .bool (decide ((b : Int) < (a : Int))))] (by kernel_rfl) rfl ?_
            cases hb101 : (decide ((b : Int) < (a : Int)))
            · skip
              have hb101f := of_decide_eq_false hb101
              refine GL.run (j := 17) 5 [0, 1, 2, 3, 8, 9, 10, 11, 12, 13, 14, 16, 47, 62] [(0, .int .u64 (a : Int)), (1, .int .u64 (b : Int)), (2, .int .u64 (u : Int)), (3, .int .u64 (d : Int)), (8, .bool (decide ((((partV a u d false) : Nat) : Int) ≤ (((partV b u d false) : Nat) : Int)))), (9, .int .u64 (((partV a u d false) : Nat) : Int)), (10, .int .i64 (((partE a u d false) : Nat) : Int)), (11, .int .u64 (((partV a u d true) : Nat) : Int)), (12, .int .i64 (((partE a u d true) : Nat) : Int)), (13, .int .u64 (((partV b u d false) : Nat) : Int)), (14, .int .i64 (((partE b u d false) : Nat) : Int)), (16, .bool false), (47, .bool false), (62, .bool false)] (by kernel_rfl) rfl ?_
              refine GL.k rfl hK98 (fun _ _ h => h) ?_
              refine G.ret ?_
              intro F_ hF_ hM_
              refine hRet _ _ (bodyPost_1 rfl (RV.tmp rfl) ?_ F_ hF_ hM_)
              cases hb102 : (decide ((((partV a u d false) : Nat) : Int) ≤ (((partV b u d false) : Nat) : Int)))
              · skip
                have hb102f := of_decide_eq_false hb102
                exfalso
                omega
              · skip
                have hb102f := of_decide_eq_true hb102
                exact ⟨rfl, H95.sub (List.nil_sublist _)⟩
            · skip
              have hb101f := of_decide_eq_true hb101
              refine GL.run (j := 17) 5 [0, 1, 2, 3, 8, 9, 10, 11, 12, 13, 14, 16, 47, 62] [(0, .int .u64 (a : Int)), (1, .int .u64 (b : Int)), (2, .int .u64 (u : Int)), (3, .int .u64 (d : Int)), (8, .bool true), (9, .int .u64 (((partV a u d false) : Nat) : Int)), (10, .int .i64 (((partE a u d false) : Nat) : Int)), (11, .int .u64 (((partV a u d true) : Nat) : Int)), (12, .int .i64 (((partE a u d true) : Nat) : Int)), (13, .int .u64 (((partV b u d false) : Nat) : Int)), (14, .int .i64 (((partE b u d false) : Nat) : Int)), (16, .bool false), (47, .bool false), (62, .bool false)] (by kernel_rfl) rfl ?_
              refine GL.k rfl hK98 (fun _ _ h => h) ?_
              refine G.ret ?_
              intro F_ hF_ hM_
              refine hRet _ _ (bodyPost_1 rfl (RV.tmp rfl) ?_ F_ hF_ hM_)
              exact ⟨rfl, H95.sub (List.nil_sublist _)⟩
          · skip
            have hb100f : (((partE b u d false) : Nat) : Int) ≠ 0 := by simpa using hb100
            refine GL.run (j := 17) 10 [0, 1, 2, 3, 8, 9, 10, 11, 12, 13, 14, 16, 47, 62] [(0, .int .u64 (a : Int)), (1, .int .u64 (b : Int)), (2, .int .u64 (u : Int)), (3, .int .u64 (d : Int)), (8, .bool true), (9, .int .u64 (((partV a u d false) : Nat) : Int)), (10, .int .i64 (((partE a u d false) : Nat) : Int)), (11, .int .u64 (((partV a u d true) : Nat) : Int)), (12, .int .i64 (((partE a u d true) : Nat) : Int)), (13, .int .u64 (((partV b u d false) : Nat) : Int)), (14, .int .i64 (((partE b u d false) : Nat) : Int)), (16, .bool false), (47, .bool false), (62, .bool false)] (by kernel_rfl) rfl ?_
            refine GL.k rfl hK98 (fun _ _ h => h) ?_
            refine G.ret ?_
            intro F_ hF_ hM_
            refine hRet _ _ (bodyPost_1 rfl (RV.tmp rfl) ?_ F_ hF_ hM_)
            exact ⟨rfl, H95.sub (List.nil_sublist _)⟩
        · skip
          have hb99f : (((partE a u d false) : Nat) : Int) ≠ 0 := by simpa using hb99
          refine GL.run (j := 17) 14 [0, 1, 2, 3, 8, 9, 10, 11, 12, 13, 14, 16, 47, 62] [(0, .int .u64 (a : Int)), (1, .int .u64 (b : Int)), (2, .int .u64 (u : Int)), (3, .int .u64 (d : Int)), (8, .bool true), (9, .int .u64 (((partV a u d false) : Nat) : Int)), (10, .int .i64 (((partE a u d false) : Nat) : Int)), (11, .int .u64 (((partV a u d true) : Nat) : Int)), (12, .int .i64 (((partE a u d true) : Nat) : Int)), (13, .int .u64 (((partV b u d false) : Nat) : Int)), (14, .int .i64 (((partE b u d false) : Nat) : Int)), (16, .bool false), (47, .bool false), (62, .bool false)] (by kernel_rfl) rfl ?_
          refine GL.k rfl hK98 (fun _ _ h => h) ?_
          refine G.ret ?_
          intro F_ hF_ hM_
          refine hRet _ _ (bodyPost_1 rfl (RV.tmp rfl) ?_ F_ hF_ hM_)
          exact ⟨rfl, H95.sub (List.nil_sublist _)⟩
      · skip
        have hb91f : (((partE a u d false) : Nat) : Int) ≠ (((partE a u d true) : Nat) : Int) := by simpa using hb91
        refine GL.run (j := 15) 4 [0, 1, 2, 3, 8, 9, 10, 11, 12, 16, 47, 62] [(0, .int .u64 (a : Int)), (1, .int .u64 (b : Int)), (2, .int .u64 (u : Int)), (3, .int .u64 (d : Int)), (8, .bool false), (9, .int .u64 (((partV a u d false) : Nat) : Int)), (10, .int .i64 (((partE a u d false) : Nat) : Int)), (11, .int .u64 (((partV a u d true) : Nat) : Int)), (12, .int .i64 (((partE a u d true) : Nat) : Int)), (16, .bool false), (47, .bool false), (62, .bool ((((partE a u d true) : Nat) : Int) != 4))] (by kernel_rfl) rfl ?_
        refine GL.k rfl hK89 (fun _ _ h => h) ?_
        cases hb103 : ((((partE a u d true) : Nat) : Int) != 4)
        · skip
          have hb103f : (((partE a u d true) : Nat) : Int) = 4 := by simpa using hb103
          refine G.no rfl ?_
          refine G.skipK hK87 (fun _ _ h => h) ?_
          refine G.seqK fun K104 hK105 => ?_
          refine G.region ?_
          refine GL.run (j := 3) 3 [0, 1, 2, 3, 8, 9, 10, 11, 12, 16, 47, 62, 64, 65, 66] [(0, .int .u64 (a : Int)), (1, .int .u64 (b : Int)), (2, .int .u64 (u : Int)), (3, .int .u64 (d : Int)), (8, .bool false), (9, .int .u64 (((partV a u d false) : Nat) : Int)), (10, .int .i64 (((partE a u d false) : Nat) : Int)), (11, .int .u64 (((partV a u d true) : Nat) : Int)), (12, .int .i64 (((partE a u d true) : Nat) : Int)), (16, .bool false), (47, .bool false), (62, .bool false), (64, .int .u64 (b : Int)), (65, .int .u64 (u : Int)), (66, .int .u64 (d : Int))] (by kernel_rfl) rfl ?_
          refine GL.call (j := 4) (Part_downA b u d hb hu hd w17) (by kernel_rfl) rfl (fun e_ w106 hR => ?_)
          obtain ⟨rfl, H108⟩ := hR
          have H107 : Hp w [] [] w106 := H18.callNil H108
          refine ⟨_, rfl, [0, 1, 2, 3, 8, 9, 10, 11, 12, 16, 47, 62, 67], [(0, .int .u64 (a : Int)), (1, .int .u64 (b : Int)), (2, .int .u64 (u : Int)), (3, .int .u64 (d : Int)), (8, .bool false), (9, .int .u64 (((partV a u d false) : Nat) : Int)), (10, .int .i64 (((partE a u d false) : Nat) : Int)), (11, .int .u64 (((partV a u d true) : Nat) : Int)), (12, .int .i64 (((partE a u d true) : Nat) : Int)), (16, .bool false), (47, .bool false), (62, .bool false), (67, .tuple #[.int .u64 (((partV b u d false) : Nat) : Int), .int .i64 (((partE b u d false) : Nat) : Int)])], by kernel_rfl, ?_⟩
          refine GL.run (j := 9) 5 [0, 1, 2, 3, 8, 9, 10, 11, 12, 13, 14, 16, 47, 62] [(0, .int .u64 (a : Int)), (1, .int .u64 (b : Int)), (2, .int .u64 (u : Int)), (3, .int .u64 (d : Int)), (8, .bool false), (9, .int .u64 (((partV a u d false) : Nat) : Int)), (10, .int .i64 (((partE a u d false) : Nat) : Int)), (11, .int .u64 (((partV a u d true) : Nat) : Int)), (12, .int .i64 (((partE a u d true) : Nat) : Int)), (13, .int .u64 (((partV b u d false) : Nat) : Int)), (14, .int .i64 (((partE b u d false) : Nat) : Int)), (16, .bool false), (47, .bool false), (62, .bool false)] (by kernel_rfl) rfl ?_
          refine GL.k rfl hK105 (fun _ _ h => h) ?_
          refine G.seqK fun K109 hK110 => ?_
          refine G.region ?_
          refine GL.run (j := 3) 3 [0, 1, 2, 3, 8, 9, 10, 11, 12, 13, 14, 16, 47, 62, 72] [(0, .int .u64 (a : Int)), (1, .int .u64 (b : Int)), (2, .int .u64 (u : Int)), (3, .int .u64 (d : Int)), (8, .bool false), (9, .int .u64 (((partV a u d false) : Nat) : Int)), (10, .int .i64 (((partE a u d false) : Nat) : Int)), (11, .int .u64 (((partV a u d true) : Nat) : Int)), (12, .int .i64 (((partE a u d true) : Nat) : Int)), (13, .int .u64 (((partV b u d false) : Nat) : Int)), (14, .int .i64 (((partE b u d false) : Nat) : Int)), (16, .bool false), (47, .bool false), (62, .bool false), (72, .bool ((((partE a u d false) : Nat) : Int) != 0))] (by kernel_rfl) rfl ?_
          cases hb111 : ((((partE a u d false) : Nat) : Int) != 0)
          · skip
            have hb111f : (((partE a u d false) : Nat) : Int) = 0 := by simpa using hb111
            refine GL.run (j := 7) 4 [0, 1, 2, 3, 8, 9, 10, 11, 12, 13, 14, 16, 47, 62, 76] [(0, .int .u64 (a : Int)), (1, .int .u64 (b : Int)), (2, .int .u64 (u : Int)), (3, .int .u64 (d : Int)), (8, .bool false), (9, .int .u64 (((partV a u d false) : Nat) : Int)), (10, .int .i64 (((partE a u d false) : Nat) : Int)), (11, .int .u64 (((partV a u d true) : Nat) : Int)), (12, .int .i64 (((partE a u d true) : Nat) : Int)), (13, .int .u64 (((partV b u d false) : Nat) : Int)), (14, .int .i64 (((partE b u d false) : Nat) : Int)), (16, .bool false), (47, .bool false), (62, .bool false), (76, .bool ((((partE b u d false) : Nat) : Int) != 0))] (by kernel_rfl) rfl ?_
            cases hb112 : ((((partE b u d false) : Nat) : Int) != 0)
            · skip
              have hb112f : (((partE b u d false) : Nat) : Int) = 0 := by simpa using hb112
              refine GL.run (j := 12) 5 [0, 1, 2, 3, 8, 9, 10, 11, 12, 13, 14, 16, 47, 62, 81] [(0, .int .u64 (a : Int)), (1, .int .u64 (b : Int)), (2, .int .u64 (u : Int)), (3, .int .u64 (d : Int)), (8, .bool false), (9, .int .u64 (((partV a u d false) : Nat) : Int)), (10, .int .i64 (((partE a u d false) : Nat) : Int)), (11, .int .u64 (((partV a u d true) : Nat) : Int)), (12, .int .i64 (((partE a u d true) : Nat) : Int)), (13, .int .u64 (((partV b u d false) : Nat) : Int)), (14, .int .i64 (((partE b u d false) : Nat) : Int)), (16, .bool false), (47, .bool false), (62, .bool false), (81, .bool (decide ((b : Int) < (a : Int))))] (by kernel_rfl) rfl ?_
              cases hb113 : (decide ((b : Int) < (a : Int)))
              · skip
                have hb113f := of_decide_eq_false hb113
                refine GL.run (j := 17) 5 [0, 1, 2, 3, 8, 9, 10, 11, 12, 13, 14, 16, 47, 62] [(0, .int .u64 (a : Int)), (1, .int .u64 (b : Int)), (2, .int .u64 (u : Int)), (3, .int .u64 (d : Int)), (8, .bool (decide ((((partV a u d false) : Nat) : Int) ≤ (((partV b u d false) : Nat) : Int)))), (9, .int .u64 (((partV a u d false) : Nat) : Int)), (10, .int .i64 (((partE a u d false) : Nat) : Int)), (11, .int .u64 (((partV a u d true) : Nat) : Int)), (12, .int .i64 (((partE a u d true) : Nat) : Int)), (13, .int .u64 (((partV b u d false) : Nat) : Int)), (14, .int .i64 (((partE b u d false) : Nat) : Int)), (16, .bool false), (47, .bool false), (62, .bool false)] (by kernel_rfl) rfl ?_
                refine GL.k rfl hK110 (fun _ _ h => h) ?_
                refine G.ret ?_
                intro F_ hF_ hM_
                refine hRet _ _ (bodyPost_1 rfl (RV.tmp rfl) ?_ F_ hF_ hM_)
                cases hb114 : (decide ((((partV a u d false) : Nat) : Int) ≤ (((partV b u d false) : Nat) : Int)))
                · skip
                  have hb114f := of_decide_eq_false hb114
                  exfalso
                  omega
                · skip
                  have hb114f := of_decide_eq_true hb114
                  exact ⟨rfl, H107.sub (List.nil_sublist _)⟩
              · skip
                have hb113f := of_decide_eq_true hb113
                refine GL.run (j := 17) 5 [0, 1, 2, 3, 8, 9, 10, 11, 12, 13, 14, 16, 47, 62] [(0, .int .u64 (a : Int)), (1, .int .u64 (b : Int)), (2, .int .u64 (u : Int)), (3, .int .u64 (d : Int)), (8, .bool true), (9, .int .u64 (((partV a u d false) : Nat) : Int)), (10, .int .i64 (((partE a u d false) : Nat) : Int)), (11, .int .u64 (((partV a u d true) : Nat) : Int)), (12, .int .i64 (((partE a u d true) : Nat) : Int)), (13, .int .u64 (((partV b u d false) : Nat) : Int)), (14, .int .i64 (((partE b u d false) : Nat) : Int)), (16, .bool false), (47, .bool false), (62, .bool false)] (by kernel_rfl) rfl ?_
                refine GL.k rfl hK110 (fun _ _ h => h) ?_
                refine G.ret ?_
                intro F_ hF_ hM_
                refine hRet _ _ (bodyPost_1 rfl (RV.tmp rfl) ?_ F_ hF_ hM_)
                exact ⟨rfl, H107.sub (List.nil_sublist _)⟩
            · skip
              have hb112f : (((partE b u d false) : Nat) : Int) ≠ 0 := by simpa using hb112
              refine GL.run (j := 17) 10 [0, 1, 2, 3, 8, 9, 10, 11, 12, 13, 14, 16, 47, 62] [(0, .int .u64 (a : Int)), (1, .int .u64 (b : Int)), (2, .int .u64 (u : Int)), (3, .int .u64 (d : Int)), (8, .bool true), (9, .int .u64 (((partV a u d false) : Nat) : Int)), (10, .int .i64 (((partE a u d false) : Nat) : Int)), (11, .int .u64 (((partV a u d true) : Nat) : Int)), (12, .int .i64 (((partE a u d true) : Nat) : Int)), (13, .int .u64 (((partV b u d false) : Nat) : Int)), (14, .int .i64 (((partE b u d false) : Nat) : Int)), (16, .bool false), (47, .bool false), (62, .bool false)] (by kernel_rfl) rfl ?_
              refine GL.k rfl hK110 (fun _ _ h => h) ?_
              refine G.ret ?_
              intro F_ hF_ hM_
              refine hRet _ _ (bodyPost_1 rfl (RV.tmp rfl) ?_ F_ hF_ hM_)
              exact ⟨rfl, H107.sub (List.nil_sublist _)⟩
          · skip
            have hb111f : (((partE a u d false) : Nat) : Int) ≠ 0 := by simpa using hb111
            refine GL.run (j := 17) 14 [0, 1, 2, 3, 8, 9, 10, 11, 12, 13, 14, 16, 47, 62] [(0, .int .u64 (a : Int)), (1, .int .u64 (b : Int)), (2, .int .u64 (u : Int)), (3, .int .u64 (d : Int)), (8, .bool true), (9, .int .u64 (((partV a u d false) : Nat) : Int)), (10, .int .i64 (((partE a u d false) : Nat) : Int)), (11, .int .u64 (((partV a u d true) : Nat) : Int)), (12, .int .i64 (((partE a u d true) : Nat) : Int)), (13, .int .u64 (((partV b u d false) : Nat) : Int)), (14, .int .i64 (((partE b u d false) : Nat) : Int)), (16, .bool false), (47, .bool false), (62, .bool false)] (by kernel_rfl) rfl ?_
            refine GL.k rfl hK110 (fun _ _ h => h) ?_
            refine G.ret ?_
            intro F_ hF_ hM_
            refine hRet _ _ (bodyPost_1 rfl (RV.tmp rfl) ?_ F_ hF_ hM_)
            exact ⟨rfl, H107.sub (List.nil_sublist _)⟩
        · skip
          have hb103f : (((partE a u d true) : Nat) : Int) ≠ 4 := by simpa using hb103
          refine G.yes rfl ?_
          refine G.seqK fun K115 hK116 => ?_
          refine G.region ?_
          refine GL.run (j := 1) 1 [0, 1, 2, 3, 8, 9, 10, 11, 12, 16, 47, 62] [(0, .int .u64 (a : Int)), (1, .int .u64 (b : Int)), (2, .int .u64 (u : Int)), (3, .int .u64 (d : Int)), (8, .bool false), (9, .int .u64 (((partV a u d false) : Nat) : Int)), (10, .int .i64 (((partE a u d false) : Nat) : Int)), (11, .int .u64 (((partV a u d true) : Nat) : Int)), (12, .int .i64 (((partE a u d true) : Nat) : Int)), (16, .bool false), (47, .bool false), (62, .bool true)] (by kernel_rfl) rfl ?_
          refine GL.k rfl hK116 (fun _ _ h => h) ?_
          refine G.ret ?_
          intro F_ hF_ hM_
          refine hRet _ _ (bodyPost_1 rfl (RV.tmp rfl) ?_ F_ hF_ hM_)
          exfalso
          omega
    · skip
      have hb85f := eq_of_beq hb85
      refine GL.run (j := 12) 5 [0, 1, 2, 3, 8, 9, 10, 11, 12, 16, 42] [(0, .int .u64 (a : Int)), (1, .int .u64 (b : Int)), (2, .int .u64 (u : Int)), (3, .int .u64 (d : Int)), (8, .bool false), (9, .int .u64 (((partV a u d false) : Nat) : Int)), (10, .int .i64 (((partE a u d false) : Nat) : Int)), (11, .int .u64 (((partV a u d true) : Nat) : Int)), (12, .int .i64 (((partE a u d true) : Nat) : Int)), (16, .bool false), (42, .bool ((((partV a u d true) : Nat) : Int) != (((partV a u d false) : Nat) : Int)))] (by kernel_rfl) rfl ?_
      cases hb117 : ((((partV a u d true) : Nat) : Int) != (((partV a u d false) : Nat) : Int))
      · skip
        have hb117f : (((partV a u d true) : Nat) : Int) = (((partV a u d false) : Nat) : Int) := by simpa using hb117
        refine GL.run (j := 17) 5 [0, 1, 2, 3, 8, 9, 10, 11, 12, 16, 47] [(0, .int .u64 (a : Int)), (1, .int .u64 (b : Int)), (2, .int .u64 (u : Int)), (3, .int .u64 (d : Int)), (8, .bool false), (9, .int .u64 (((partV a u d false) : Nat) : Int)), (10, .int .i64 (((partE a u d false) : Nat) : Int)), (11, .int .u64 (((partV a u d true) : Nat) : Int)), (12, .int .i64 (((partE a u d true) : Nat) : Int)), (16, .bool false), (47, .bool false)] (by kernel_rfl) rfl ?_
        refine GL.k rfl hK23 (fun _ _ h => h) ?_
        refine G.no rfl ?_
        refine G.skipK hK21 (fun _ _ h => h) ?_
        refine G.seqK fun K118 hK119 => ?_
        refine G.seqK fun K120 hK121 => ?_
        refine G.region ?_
        refine GL.run (j := 3) 3 [0, 1, 2, 3, 8, 9, 10, 11, 12, 16, 47, 50] [(0, .int .u64 (a : Int)), (1, .int .u64 (b : Int)), (2, .int .u64 (u : Int)), (3, .int .u64 (d : Int)), (8, .bool false), (9, .int .u64 (((partV a u d false) : Nat) : Int)), (10, .int .i64 (((partE a u d false) : Nat) : Int)), (11, .int .u64 (((partV a u d true) : Nat) : Int)), (12, .int .i64 (((partE a u d true) : Nat) : Int)), (16, .bool false), (47, .bool false), (50, .bool ((((partE a u d true) : Nat) : Int) == 0))] (by kernel_rfl) rfl ?_
        have hb122 : ((((partE a u d true) : Nat) : Int) == 0) = true := by assumption
        rw [hb122]
        refine GL.run (j := 7) 4 [0, 1, 2, 3, 8, 9, 10, 11, 12, 16, 47, 54] [(0, .int .u64 (a : Int)), (1, .int .u64 (b : Int)), (2, .int .u64 (u : Int)), (3, .int .u64 (d : Int)), (8, .bool false), (9, .int .u64 (((partV a u d false) : Nat) : Int)), (10, .int .i64 (((partE a u d false) : Nat) : Int)), (11, .int .u64 (((partV a u d true) : Nat) : Int)), (12, .int .i64 (((partE a u d true) : Nat) : Int)), (16, .bool false), (47, .bool false), (54, .bool ((((partE a u d false) : Nat) : Int) != 0))] (by kernel_rfl) rfl ?_
        cases hb123 : ((((partE a u d false) : Nat) : Int) != 0)
        · skip
          have hb123f : (((partE a u d false) : Nat) : Int) = 0 := by simpa using hb123
          refine GL.run (j := 11) 4 [0, 1, 2, 3, 8, 9, 10, 11, 12, 16, 47, 54, 58] [(0, .int .u64 (a : Int)), (1, .int .u64 (b : Int)), (2, .int .u64 (u : Int)), (3, .int .u64 (d : Int)), (8, .bool false), (9, .int .u64 (((partV a u d false) : Nat) : Int)), (10, .int .i64 (((partE a u d false) : Nat) : Int)), (11, .int .u64 (((partV a u d true) : Nat) : Int)), (12, .int .i64 (((partE a u d true) : Nat) : Int)), (16, .bool false), (47, .bool false), (54, .bool false), (58, .bool ((((partE a u d false) : Nat) : Int) != (((partE a u d true) : Nat) : Int)))] (by kernel_rfl) rfl ?_
          cases hb124 : ((((partE a u d false) : Nat) : Int) != (((partE a u d true) : Nat) : Int))
          · skip
            have hb124f : (((partE a u d false) : Nat) : Int) = (((partE a u d true) : Nat) : Int) := by simpa using hb124
            refine GL.run (j := 15) 4 [0, 1, 2, 3, 8, 9, 10, 11, 12, 16, 47, 62] [(0, .int .u64 (a : Int)), (1, .int .u64 (b : Int)), (2, .int .u64 (u : Int)), (3, .int .u64 (d : Int)), (8, .bool false), (9, .int .u64 (((partV a u d false) : Nat) : Int)), (10, .int .i64 (((partE a u d false) : Nat) : Int)), (11, .int .u64 (((partV a u d true) : Nat) : Int)), (12, .int .i64 (((partE a u d true) : Nat) : Int)), (16, .bool false), (47, .bool false), (62, .bool false)] (by kernel_rfl) rfl ?_
            refine GL.k rfl hK121 (fun _ _ h => h) ?_
            refine G.no rfl ?_
            refine G.skipK hK119 (fun _ _ h => h) ?_
            refine G.seqK fun K125 hK126 => ?_
            refine G.region ?_
            refine GL.run (j := 3) 3 [0, 1, 2, 3, 8, 9, 10, 11, 12, 16, 47, 62, 64, 65, 66] [(0, .int .u64 (a : Int)), (1, .int .u64 (b : Int)), (2, .int .u64 (u : Int)), (3, .int .u64 (d : Int)), (8, .bool false), (9, .int .u64 (((partV a u d false) : Nat) : Int)), (10, .int .i64 (((partE a u d false) : Nat) : Int)), (11, .int .u64 (((partV a u d true) : Nat) : Int)), (12, .int .i64 (((partE a u d true) : Nat) : Int)), (16, .bool false), (47, .bool false), (62, .bool false), (64, .int .u64 (b : Int)), (65, .int .u64 (u : Int)), (66, .int .u64 (d : Int))] (by kernel_rfl) rfl ?_
            refine GL.call (j := 4) (Part_downA b u d hb hu hd w17) (by kernel_rfl) rfl (fun e_ w127 hR => ?_)
            obtain ⟨rfl, H129⟩ := hR
            have H128 : Hp w [] [] w127 := H18.callNil H129
            refine ⟨_, rfl, [0, 1, 2, 3, 8, 9, 10, 11, 12, 16, 47, 62, 67], [(0, .int .u64 (a : Int)), (1, .int .u64 (b : Int)), (2, .int .u64 (u : Int)), (3, .int .u64 (d : Int)), (8, .bool false), (9, .int .u64 (((partV a u d false) : Nat) : Int)), (10, .int .i64 (((partE a u d false) : Nat) : Int)), (11, .int .u64 (((partV a u d true) : Nat) : Int)), (12, .int .i64 (((partE a u d true) : Nat) : Int)), (16, .bool false), (47, .bool false), (62, .bool false), (67, .tuple #[.int .u64 (((partV b u d false) : Nat) : Int), .int .i64 (((partE b u d false) : Nat) : Int)])], by kernel_rfl, ?_⟩
            refine GL.run (j := 9) 5 [0, 1, 2, 3, 8, 9, 10, 11, 12, 13, 14, 16, 47, 62] [(0, .int .u64 (a : Int)), (1, .int .u64 (b : Int)), (2, .int .u64 (u : Int)), (3, .int .u64 (d : Int)), (8, .bool false), (9, .int .u64 (((partV a u d false) : Nat) : Int)), (10, .int .i64 (((partE a u d false) : Nat) : Int)), (11, .int .u64 (((partV a u d true) : Nat) : Int)), (12, .int .i64 (((partE a u d true) : Nat) : Int)), (13, .int .u64 (((partV b u d false) : Nat) : Int)), (14, .int .i64 (((partE b u d false) : Nat) : Int)), (16, .bool false), (47, .bool false), (62, .bool false)] (by kernel_rfl) rfl ?_
            refine GL.k rfl hK126 (fun _ _ h => h) ?_
            refine G.seqK fun K130 hK131 => ?_
            refine G.region ?_
            refine GL.run (j := 3) 3 [0, 1, 2, 3, 8, 9, 10, 11, 12, 13, 14, 16, 47, 62, 72] [(0, .int .u64 (a : Int)), (1, .int .u64 (b : Int)), (2, .int .u64 (u : Int)), (3, .int .u64 (d : Int)), (8, .bool false), (9, .int .u64 (((partV a u d false) : Nat) : Int)), (10, .int .i64 (((partE a u d false) : Nat) : Int)), (11, .int .u64 (((partV a u d true) : Nat) : Int)), (12, .int .i64 (((partE a u d true) : Nat) : Int)), (13, .int .u64 (((partV b u d false) : Nat) : Int)), (14, .int .i64 (((partE b u d false) : Nat) : Int)), (16, .bool false), (47, .bool false), (62, .bool false), (72, .bool ((((partE a u d false) : Nat) : Int) != 0))] (by kernel_rfl) rfl ?_
            have hb132 : ((((partE a u d false) : Nat) : Int) != 0) = false := by assumption
            rw [hb132]
            refine GL.run (j := 7) 4 [0, 1, 2, 3, 8, 9, 10, 11, 12, 13, 14, 16, 47, 62, 76] [(0, .int .u64 (a : Int)), (1, .int .u64 (b : Int)), (2, .int .u64 (u : Int)), (3, .int .u64 (d : Int)), (8, .bool false), (9, .int .u64 (((partV a u d false) : Nat) : Int)), (10, .int .i64 (((partE a u d false) : Nat) : Int)), (11, .int .u64 (((partV a u d true) : Nat) : Int)), (12, .int .i64 (((partE a u d true) : Nat) : Int)), (13, .int .u64 (((partV b u d false) : Nat) : Int)), (14, .int .i64 (((partE b u d false) : Nat) : Int)), (16, .bool false), (47, .bool false), (62, .bool false), (76, .bool ((((partE b u d false) : Nat) : Int) != 0))] (by kernel_rfl) rfl ?_
            cases hb133 : ((((partE b u d false) : Nat) : Int) != 0)
            · skip
              have hb133f : (((partE b u d false) : Nat) : Int) = 0 := by simpa using hb133
              refine GL.run (j := 12) 5 [0, 1, 2, 3, 8, 9, 10, 11, 12, 13, 14, 16, 47, 62, 81] [(0, .int .u64 (a : Int)), (1, .int .u64 (b : Int)), (2, .int .u64 (u : Int)), (3, .int .u64 (d : Int)), (8, .bool false), (9, .int .u64 (((partV a u d false) : Nat) : Int)), (10, .int .i64 (((partE a u d false) : Nat) : Int)), (11, .int .u64 (((partV a u d true) : Nat) : Int)), (12, .int .i64 (((partE a u d true) : Nat) : Int)), (13, .int .u64 (((partV b u d false) : Nat) : Int)), (14, .int .i64 (((partE b u d false) : Nat) : Int)), (16, .bool false), (47, .bool false), (62, .bool false), (81, .bool (decide ((b : Int) < (a : Int))))] (by kernel_rfl) rfl ?_
              cases hb134 : (decide ((b : Int) < (a : Int)))
              · skip
                have hb134f := of_decide_eq_false hb134
                refine GL.run (j := 17) 5 [0, 1, 2, 3, 8, 9, 10, 11, 12, 13, 14, 16, 47, 62] [(0, .int .u64 (a : Int)), (1, .int .u64 (b : Int)), (2, .int .u64 (u : Int)), (3, .int .u64 (d : Int)), (8, .bool (decide ((((partV a u d false) : Nat) : Int) ≤ (((partV b u d false) : Nat) : Int)))), (9, .int .u64 (((partV a u d false) : Nat) : Int)), (10, .int .i64 (((partE a u d false) : Nat) : Int)), (11, .int .u64 (((partV a u d true) : Nat) : Int)), (12, .int .i64 (((partE a u d true) : Nat) : Int)), (13, .int .u64 (((partV b u d false) : Nat) : Int)), (14, .int .i64 (((partE b u d false) : Nat) : Int)), (16, .bool false), (47, .bool false), (62, .bool false)] (by kernel_rfl) rfl ?_
                refine GL.k rfl hK131 (fun _ _ h => h) ?_
                refine G.ret ?_
                intro F_ hF_ hM_
                refine hRet _ _ (bodyPost_1 rfl (RV.tmp rfl) ?_ F_ hF_ hM_)
                cases hb135 : (decide ((((partV a u d false) : Nat) : Int) ≤ (((partV b u d false) : Nat) : Int)))
                · skip
                  have hb135f := of_decide_eq_false hb135
                  exfalso
                  omega
                · skip
                  have hb135f := of_decide_eq_true hb135
                  exact ⟨rfl, H128.sub (List.nil_sublist _)⟩
              · skip
                have hb134f := of_decide_eq_true hb134
                refine GL.run (j := 17) 5 [0, 1, 2, 3, 8, 9, 10, 11, 12, 13, 14, 16, 47, 62] [(0, .int .u64 (a : Int)), (1, .int .u64 (b : Int)), (2, .int .u64 (u : Int)), (3, .int .u64 (d : Int)), (8, .bool true), (9, .int .u64 (((partV a u d false) : Nat) : Int)), (10, .int .i64 (((partE a u d false) : Nat) : Int)), (11, .int .u64 (((partV a u d true) : Nat) : Int)), (12, .int .i64 (((partE a u d true) : Nat) : Int)), (13, .int .u64 (((partV b u d false) : Nat) : Int)), (14, .int .i64 (((partE b u d false) : Nat) : Int)), (16, .bool false), (47, .bool false), (62, .bool false)] (by kernel_rfl) rfl ?_
                refine GL.k rfl hK131 (fun _ _ h => h) ?_
                refine G.ret ?_
                intro F_ hF_ hM_
                refine hRet _ _ (bodyPost_1 rfl (RV.tmp rfl) ?_ F_ hF_ hM_)
                exact ⟨rfl, H128.sub (List.nil_sublist _)⟩
            · skip
              have hb133f : (((partE b u d false) : Nat) : Int) ≠ 0 := by simpa using hb133
              refine GL.run (j := 17) 10 [0, 1, 2, 3, 8, 9, 10, 11, 12, 13, 14, 16, 47, 62] [(0, .int .u64 (a : Int)), (1, .int .u64 (b : Int)), (2, .int .u64 (u : Int)), (3, .int .u64 (d : Int)), (8, .bool true), (9, .int .u64 (((partV a u d false) : Nat) : Int)), (10, .int .i64 (((partE a u d false) : Nat) : Int)), (11, .int .u64 (((partV a u d true) : Nat) : Int)), (12, .int .i64 (((partE a u d true) : Nat) : Int)), (13, .int .u64 (((partV b u d false) : Nat) : Int)), (14, .int .i64 (((partE b u d false) : Nat) : Int)), (16, .bool false), (47, .bool false), (62, .bool false)] (by kernel_rfl) rfl ?_
              refine GL.k rfl hK131 (fun _ _ h => h) ?_
              refine G.ret ?_
              intro F_ hF_ hM_
              refine hRet _ _ (bodyPost_1 rfl (RV.tmp rfl) ?_ F_ hF_ hM_)
              exact ⟨rfl, H128.sub (List.nil_sublist _)⟩
          · skip
            have hb124f : (((partE a u d false) : Nat) : Int) ≠ (((partE a u d true) : Nat) : Int) := by simpa using hb124
            refine GL.run (j := 15) 4 [0, 1, 2, 3, 8, 9, 10, 11, 12, 16, 47, 62] [(0, .int .u64 (a : Int)), (1, .int .u64 (b : Int)), (2, .int .u64 (u : Int)), (3, .int .u64 (d : Int)), (8, .bool false), (9, .int .u64 (((partV a u d false) : Nat) : Int)), (10, .int .i64 (((partE a u d false) : Nat) : Int)), (11, .int .u64 (((partV a u d true) : Nat) : Int)), (12, .int .i64 (((partE a u d true) : Nat) : Int)), (16, .bool false), (47, .bool false), (62, .bool ((((partE a u d true) : Nat) : Int) != 4))] (by kernel_rfl) rfl ?_
            refine GL.k rfl hK121 (fun _ _ h => h) ?_
            cases hb136 : ((((partE a u d true) : Nat) : Int) != 4)
            · skip
              have hb136f : (((partE a u d true) : Nat) : Int) = 4 := by simpa using hb136
              refine G.no rfl ?_
              refine G.skipK hK119 (fun _ _ h => h) ?_
              refine G.seqK fun K137 hK138 => ?_
              refine G.region ?_
              refine GL.run (j := 3) 3 [0, 1, 2, 3, 8, 9, 10, 11, 12, 16, 47, 62, 64, 65, 66] [(0, .int .u64 (a : Int)), (1, .int .u64 (b : Int)), (2, .int .u64 (u : Int)), (3, .int .u64 (d : Int)), (8, .bool false), (9, .int .u64 (((partV a u d false) : Nat) : Int)), (10, .int .i64 (((partE a u d false) : Nat) : Int)), (11, .int .u64 (((partV a u d true) : Nat) : Int)), (12, .int .i64 (((partE a u d true) : Nat) : Int)), (16, .bool false), (47, .bool false), (62, .bool false), (64, .int .u64 (b : Int)), (65, .int .u64 (u : Int)), (66, .int .u64 (d : Int))] (by kernel_rfl) rfl ?_
              refine GL.call (j := 4) (Part_downA b u d hb hu hd w17) (by kernel_rfl) rfl (fun e_ w139 hR => ?_)
              obtain ⟨rfl, H141⟩ := hR
              have H140 : Hp w [] [] w139 := H18.callNil H141
              refine ⟨_, rfl, [0, 1, 2, 3, 8, 9, 10, 11, 12, 16, 47, 62, 67], [(0, .int .u64 (a : Int)), (1, .int .u64 (b : Int)), (2, .int .u64 (u : Int)), (3, .int .u64 (d : Int)), (8, .bool false), (9, .int .u64 (((partV a u d false) : Nat) : Int)), (10, .int .i64 (((partE a u d false) : Nat) : Int)), (11, .int .u64 (((partV a u d true) : Nat) : Int)), (12, .int .i64 (((partE a u d true) : Nat) : Int)), (16, .bool false), (47, .bool false), (62, .bool false), (67, .tuple #[.int .u64 (((partV b u d false) : Nat) : Int), .int .i64 (((partE b u d false) : Nat) : Int)])], by kernel_rfl, ?_⟩
              refine GL.run (j := 9) 5 [0, 1, 2, 3, 8, 9, 10, 11, 12, 13, 14, 16, 47, 62] [(0, .int .u64 (a : Int)), (1, .int .u64 (b : Int)), (2, .int .u64 (u : Int)), (3, .int .u64 (d : Int)), (8, .bool false), (9, .int .u64 (((partV a u d false) : Nat) : Int)), (10, .int .i64 (((partE a u d false) : Nat) : Int)), (11, .int .u64 (((partV a u d true) : Nat) : Int)), (12, .int .i64 (((partE a u d true) : Nat) : Int)), (13, .int .u64 (((partV b u d false) : Nat) : Int)), (14, .int .i64 (((partE b u d false) : Nat) : Int)), (16, .bool false), (47, .bool false), (62, .bool false)] (by kernel_rfl) rfl ?_
              refine GL.k rfl hK138 (fun _ _ h => h) ?_
              refine G.seqK fun K142 hK143 => ?_
              refine G.region ?_
              refine GL.run (j := 3) 3 [0, 1, 2, 3, 8, 9, 10, 11, 12, 13, 14, 16, 47, 62, 72] [(0, .int .u64 (a : Int)), (1, .int .u64 (b : Int)), (2, .int .u64 (u : Int)), (3, .int .u64 (d : Int)), (8, .bool false), (9, .int .u64 (((partV a u d false) : Nat) : Int)), (10, .int .i64 (((partE a u d false) : Nat) : Int)), (11, .int .u64 (((partV a u d true) : Nat) : Int)), (12, .int .i64 (((partE a u d true) : Nat) : Int)), (13, .int .u64 (((partV b u d false) : Nat) : Int)), (14, .int .i64 (((partE b u d false) : Nat) : Int)), (16, .bool false), (47, .bool false), (62, .bool false), (72, .bool ((((partE a u d false) : Nat) : Int) != 0))] (by kernel_rfl) rfl ?_
              have hb144 : ((((partE a u d false) : Nat) : Int) != 0) = false := by assumption
              rw [hb144]
              refine GL.run (j := 7) 4 [0, 1, 2, 3, 8, 9, 10, 11, 12, 13, 14, 16, 47, 62, 76] [(0, .int .u64 (a : Int)), (1, .int .u64 (b : Int)), (2, .int .u64 (u : Int)), (3, .int .u64 (d : Int)), (8, .bool false), (9, .int .u64 (((partV a u d false) : Nat) : Int)), (10, .int .i64 (((partE a u d false) : Nat) : Int)), (11, .int .u64 (((partV a u d true) : Nat) : Int)), (12, .int .i64 (((partE a u d true) : Nat) : Int)), (13, .int .u64 (((partV b u d false) : Nat) : Int)), (14, .int .i64 (((partE b u d false) : Nat) : Int)), (16, .bool false), (47, .bool false), (62, .bool false), (76, .bool ((((partE b u d false) : Nat) : Int) != 0))] (by kernel_rfl) rfl ?_
              cases hb145 : ((((partE b u d false) : Nat) : Int) != 0)
              · skip
                have hb145f : (((partE b u d false) : Nat) : Int) = 0 := by simpa using hb145
                refine GL.run (j := 12) 5 [0, 1, 2, 3, 8, 9, 10, 11, 12, 13, 14, 16, 47, 62, 81] [(0, .int .u64 (a : Int)), (1, .int .u64 (b : Int)), (2, .int .u64 (u : Int)), (3, .int .u64 (d : Int)), (8, .bool false), (9, .int .u64 (((partV a u d false) : Nat) : Int)), (10, .int .i64 (((partE a u d false) : Nat) : Int)), (11, .int .u64 (((partV a u d true) : Nat) : Int)), (12, .int .i64 (((partE a u d true) : Nat) : Int)), (13, .int .u64 (((partV b u d false) : Nat) : Int)), (14, .int .i64 (((partE b u d false) : Nat) : Int)), (16, .bool false), (47, .bool false), (62, .bool false), (81, .bool (decide ((b : Int) < (a : Int))))] (by kernel_rfl) rfl ?_
                cases hb146 : (decide ((b : Int) < (a : Int)))
                · skip
                  have hb146f := of_decide_eq_false hb146
                  refine GL.run (j := 17) 5 [0, 1, 2, 3, 8, 9, 10, 11, 12, 13, 14, 16, 47, 62] [(0, .int .u64 (a : Int)), (1, .int .u64 (b : Int)), (2, .int .u64 (u : Int)), (3, .int .u64 (d : Int)), (8, .bool (decide ((((partV a u d false) : Nat) : Int) ≤ (((partV b u d false) : Nat) : Int)))), (9, .int .u64 (((partV a u d false) : Nat) : Int)), (10, .int .i64 (((partE a u d false) : Nat) : Int)), (11, .int .u64 (((partV a u d true) : Nat) : Int)), (12, .int .i64 (((partE a u d true) : Nat) : Int)), (13, .int .u64 (((partV b u d false) : Nat) : Int)), (14, .int .i64 (((partE b u d false) : Nat) : Int)), (16, .bool false), (47, .bool false), (62, .bool false)] (by kernel_rfl) rfl ?_
                  refine GL.k rfl hK143 (fun _ _ h => h) ?_
                  refine G.ret ?_
                  intro F_ hF_ hM_
                  refine hRet _ _ (bodyPost_1 rfl (RV.tmp rfl) ?_ F_ hF_ hM_)
                  cases hb147 : (decide ((((partV a u d false) : Nat) : Int) ≤ (((partV b u d false) : Nat) : Int)))
                  · skip
                    have hb147f := of_decide_eq_false hb147
                    exfalso
                    omega
                  · skip
                    have hb147f := of_decide_eq_true hb147
                    exact ⟨rfl, H140.sub (List.nil_sublist _)⟩
                · skip
                  have hb146f := of_decide_eq_true hb146
                  refine GL.run (j := 17) 5 [0, 1, 2, 3, 8, 9, 10, 11, 12, 13, 14, 16, 47, 62] [(0, .int .u64 (a : Int)), (1, .int .u64 (b : Int)), (2, .int .u64 (u : Int)), (3, .int .u64 (d : Int)), (8, .bool true), (9, .int .u64 (((partV a u d false) : Nat) : Int)), (10, .int .i64 (((partE a u d false) : Nat) : Int)), (11, .int .u64 (((partV a u d true) : Nat) : Int)), (12, .int .i64 (((partE a u d true) : Nat) : Int)), (13, .int .u64 (((partV b u d false) : Nat) : Int)), (14, .int .i64 (((partE b u d false) : Nat) : Int)), (16, .bool false), (47, .bool false), (62, .bool false)] (by kernel_rfl) rfl ?_
                  refine GL.k rfl hK143 (fun _ _ h => h) ?_
                  refine G.ret ?_
                  intro F_ hF_ hM_
                  refine hRet _ _ (bodyPost_1 rfl (RV.tmp rfl) ?_ F_ hF_ hM_)
                  exact ⟨rfl, H140.sub (List.nil_sublist _)⟩
              · skip
                have hb145f : (((partE b u d false) : Nat) : Int) ≠ 0 := by simpa using hb145
                refine GL.run (j := 17) 10 [0, 1, 2, 3, 8, 9, 10, 11, 12, 13, 14, 16, 47, 62] [(0, .int .u64 (a : Int)), (1, .int .u64 (b : Int)), (2, .int .u64 (u : Int)), (3, .int .u64 (d : Int)), (8, .bool true), (9, .int .u64 (((partV a u d false) : Nat) : Int)), (10, .int .i64 (((partE a u d false) : Nat) : Int)), (11, .int .u64 (((partV a u d true) : Nat) : Int)), (12, .int .i64 (((partE a u d true) : Nat) : Int)), (13, .int .u64 (((partV b u d false) : Nat) : Int)), (14, .int .i64 (((partE b u d false) : Nat) : Int)), (16, .bool false), (47, .bool false), (62, .bool false)] (by kernel_rfl) rfl ?_
                refine GL.k rfl hK143 (fun _ _ h => h) ?_
                refine G.ret ?_
                intro F_ hF_ hM_
                refine hRet _ _ (bodyPost_1 rfl (RV.tmp rfl) ?_ F_ hF_ hM_)
                exact ⟨rfl, H140.sub (List.nil_sublist _)⟩
            · skip
              have hb136f : (((partE a u d true) : Nat) : Int) ≠ 4 := by simpa using hb136
              refine G.yes rfl ?_
              refine G.seqK fun K148 hK149 => ?_
              refine G.region ?_
              refine GL.run (j := 1) 1 [0, 1, 2, 3, 8, 9, 10, 11, 12, 16, 47, 62] [(0, .int .u64 (a : Int)), (1, .int .u64 (b : Int)), (2, .int .u64 (u : Int)), (3, .int .u64 (d : Int)), (8, .bool false), (9, .int .u64 (((partV a u d false) : Nat) : Int)), (10, .int .i64 (((partE a u d false) : Nat) : Int)), (11, .int .u64 (((partV a u d true) : Nat) : Int)), (12, .int .i64 (((partE a u d true) : Nat) : Int)), (16, .bool false), (47, .bool false), (62, .bool true)] (by kernel_rfl) rfl ?_
              refine GL.k rfl hK149 (fun _ _ h => h) ?_
              refine G.ret ?_
              intro F_ hF_ hM_
              refine hRet _ _ (bodyPost_1 rfl (RV.tmp rfl) ?_ F_ hF_ hM_)
              exfalso
              omega
        · skip
          have hb123f : (((partE a u d false) : Nat) : Int) ≠ 0 := by simpa using hb123
          refine GL.run (j := 15) 8 [0, 1, 2, 3, 8, 9, 10, 11, 12, 16, 47, 62] [(0, .int .u64 (a : Int)), (1, .int .u64 (b : Int)), (2, .int .u64 (u : Int)), (3, .int .u64 (d : Int)), (8, .bool false), (9, .int .u64 (((partV a u d false) : Nat) : Int)), (10, .int .i64 (((partE a u d false) : Nat) : Int)), (11, .int .u64 (((partV a u d true) : Nat) : Int)), (12, .int .i64 (((partE a u d true) : Nat) : Int)), (16, .bool false), (47, .bool false), (62, .bool true)] (by kernel_rfl) rfl ?_
          refine GL.k rfl hK121 (fun _ _ h => h) ?_
          refine G.yes rfl ?_
          refine G.seqK fun K150 hK151 => ?_
          refine G.region ?_
          refine GL.run (j := 1) 1 [0, 1, 2, 3, 8, 9, 10, 11, 12, 16, 47, 62] [(0, .int .u64 (a : Int)), (1, .int .u64 (b : Int)), (2, .int .u64 (u : Int)), (3, .int .u64 (d : Int)), (8, .bool false), (9, .int .u64 (((partV a u d false) : Nat) : Int)), (10, .int .i64 (((partE a u d false) : Nat) : Int)), (11, .int .u64 (((partV a u d true) : Nat) : Int)), (12, .int .i64 (((partE a u d true) : Nat) : Int)), (16, .bool false), (47, .bool false), (62, .bool true)] (by kernel_rfl) rfl ?_
          refine GL.k rfl hK151 (fun _ _ h => h) ?_
          refine G.ret ?_
          intro F_ hF_ hM_
          refine hRet _ _ (bodyPost_1 rfl (RV.tmp rfl) ?_ F_ hF_ hM_)
          exfalso
          omega
      · skip
        have hb117f : (((partV a u d true) : Nat) : Int) ≠ (((partV a u d false) : Nat) : Int) := by simpa using hb117
        refine GL.run (j := 17) 5 [0, 1, 2, 3, 8, 9, 10, 11, 12, 16, 47] [(0, .int .u64 (a : Int)), (1, .int .u64 (b : Int)), (2, .int .u64 (u : Int)), (3, .int .u64 (d : Int)), (8, .bool false), (9, .int .u64 (((partV a u d false) : Nat) : Int)), (10, .int .i64 (((partE a u d false) : Nat) : Int)), (11, .int .u64 (((partV a u d true) : Nat) : Int)), (12, .int .i64 (((partE a u d true) : Nat) : Int)), (16, .bool false), (47, .bool ((((partV a u d true) : Nat) : Int) != (IntKind.u64.wrap ((((partV a u d false) : Nat) : Int) + 1))))] (by kernel_rfl) rfl ?_
        have e152 : (IntKind.u64.wrap ((((partV a u d false) : Nat) : Int) + 1)) = (((partV a u d false) + 1 : Nat) : Int) := n_add' (b := 1) (by omega)
        refine GL.eq (M' := [(0, .int .u64 (a : Int)), (1, .int .u64 (b : Int)), (2, .int .u64 (u : Int)), (3, .int .u64 (d : Int)), (8, .bool false), (9, .int .u64 (((partV a u d false) : Nat) : Int)), (10, .int .i64 (((partE a u d false) : Nat) : Int)), (11, .int .u64 (((partV a u d true) : Nat) : Int)), (12, .int .i64 (((partE a u d true) : Nat) : Int)), (16, .bool false), (47, .bool ((((partV a u d true) : Nat) : Int) != (((partV a u d false) + 1 : Nat) : Int)))]) (by rw [e152]) ?_
        clear e152
        refine GL.k rfl hK23 (fun _ _ h => h) ?_
        cases hb153 : ((((partV a u d true) : Nat) : Int) != (((partV a u d false) + 1 : Nat) : Int))
        · skip
          have hb153f : (((partV a u d true) : Nat) : Int) = (((partV a u d false) + 1 : Nat) : Int) := by simpa using hb153
          refine G.no rfl ?_
          refine G.skipK hK21 (fun _ _ h => h) ?_
          refine G.seqK fun K154 hK155 => ?_
          refine G.seqK fun K156 hK157 => ?_
          refine G.region ?_
          refine GL.run (j := 3) 3 [0, 1, 2, 3, 8, 9, 10, 11, 12, 16, 47, 50] [(0, .int .u64 (a : Int)), (1, .int .u64 (b : Int)), (2, .int .u64 (u : Int)), (3, .int .u64 (d : Int)), (8, .bool false), (9, .int .u64 (((partV a u d false) : Nat) : Int)), (10, .int .i64 (((partE a u d false) : Nat) : Int)), (11, .int .u64 (((partV a u d true) : Nat) : Int)), (12, .int .i64 (((partE a u d true) : Nat) : Int)), (16, .bool false), (47, .bool false), (50, .bool ((((partE a u d true) : Nat) : Int) == 0))] (by kernel_rfl) rfl ?_
          have hb158 : ((((partE a u d true) : Nat) : Int) == 0) = true := by assumption
          rw [hb158]
          refine GL.run (j := 7) 4 [0, 1, 2, 3, 8, 9, 10, 11, 12, 16, 47, 54] [(0, .int .u64 (a : Int)), (1, .int .u64 (b : Int)), (2, .int .u64 (u : Int)), (3, .int .u64 (d : Int)), (8, .bool false), (9, .int .u64 (((partV a u d false) : Nat) : Int)), (10, .int .i64 (((partE a u d false) : Nat) : Int)), (11, .int .u64 (((partV a u d true) : Nat) : Int)), (12, .int .i64 (((partE a u d true) : Nat) : Int)), (16, .bool false), (47, .bool false), (54, .bool ((((partE a u d false) : Nat) : Int) != 0))] (by kernel_rfl) rfl ?_
          cases hb159 : ((((partE a u d false) : Nat) : Int) != 0)
          · skip
            have hb159f : (((partE a u d false) : Nat) : Int) = 0 := by simpa using hb159
            refine GL.run (j := 11) 4 [0, 1, 2, 3, 8, 9, 10, 11, 12, 16, 47, 54, 58] [(0, .int .u64 (a : Int)), (1, .int .u64 (b : Int)), (2, .int .u64 (u : Int)), (3, .int .u64 (d : Int)), (8, .bool false), (9, .int .u64 (((partV a u d false) : Nat) : Int)), (10, .int .i64 (((partE a u d false) : Nat) : Int)), (11, .int .u64 (((partV a u d true) : Nat) : Int)), (12, .int .i64 (((partE a u d true) : Nat) : Int)), (16, .bool false), (47, .bool false), (54, .bool false), (58, .bool ((((partE a u d false) : Nat) : Int) != (((partE a u d true) : Nat) : Int)))] (by kernel_rfl) rfl ?_
            cases hb160 : ((((partE a u d false) : Nat) : Int) != (((partE a u d true) : Nat) : Int))
            · skip
              have hb160f : (((partE a u d false) : Nat) : Int) = (((partE a u d true) : Nat) : Int) := by simpa using hb160
              refine GL.run (j := 15) 4 [0, 1, 2, 3, 8, 9, 10, 11, 12, 16, 47, 62] [(0, .int .u64 (a : Int)), (1, .int .u64 (b : Int)), (2, .int .u64 (u : Int)), (3, .int .u64 (d : Int)), (8, .bool false), (9, .int .u64 (((partV a u d false) : Nat) : Int)), (10, .int .i64 (((partE a u d false) : Nat) : Int)), (11, .int .u64 (((partV a u d true) : Nat) : Int)), (12, .int .i64 (((partE a u d true) : Nat) : Int)), (16, .bool false), (47, .bool false), (62, .bool false)] (by kernel_rfl) rfl ?_
              refine GL.k rfl hK157 (fun _ _ h => h) ?_
              refine G.no rfl ?_
              refine G.skipK hK155 (fun _ _ h => h) ?_
              refine G.seqK fun K161 hK162 => ?_
              refine G.region ?_
              refine GL.run (j := 3) 3 [0, 1, 2, 3, 8, 9, 10, 11, 12, 16, 47, 62, 64, 65, 66] [(0, .int .u64 (a : Int)), (1, .int .u64 (b : Int)), (2, .int .u64 (u : Int)), (3, .int .u64 (d : Int)), (8, .bool false), (9, .int .u64 (((partV a u d false) : Nat) : Int)), (10, .int .i64 (((partE a u d false) : Nat) : Int)), (11, .int .u64 (((partV a u d true) : Nat) : Int)), (12, .int .i64 (((partE a u d true) : Nat) : Int)), (16, .bool false), (47, .bool false), (62, .bool false), (64, .int .u64 (b : Int)), (65, .int .u64 (u : Int)), (66, .int .u64 (d : Int))] (by kernel_rfl) rfl ?_
              refine GL.call (j := 4) (Part_downA b u d hb hu hd w17) (by kernel_rfl) rfl (fun e_ w163 hR => ?_)
              obtain ⟨rfl, H165⟩ := hR
              have H164 : Hp w [] [] w163 := H18.callNil H165
              refine ⟨_, rfl, [0, 1, 2, 3, 8, 9, 10, 11, 12, 16, 47, 62, 67], [(0, .int .u64 (a : Int)), (1, .int .u64 (b : Int)), (2, .int .u64 (u : Int)), (3, .int .u64 (d : Int)), (8, .bool false), (9, .int .u64 (((partV a u d false) : Nat) : Int)), (10, .int .i64 (((partE a u d false) : Nat) : Int)), (11, .int .u64 (((partV a u d true) : Nat) : Int)), (12, .int .i64 (((partE a u d true) : Nat) : Int)), (16, .bool false), (47, .bool false), (62, .bool false), (67, .tuple #[.int .u64 (((partV b u d false) : Nat) : Int), .int .i64 (((partE b u d false) : Nat) : Int)])], by kernel_rfl, ?_⟩
              refine GL.run (j := 9) 5 [0, 1, 2, 3, 8, 9, 10, 11, 12, 13, 14, 16, 47, 62] [(0, .int .u64 (a : Int)), (1, .int .u64 (b : Int)), (2, .int .u64 (u : Int)), (3, .int .u64 (d : Int)), (8, .bool false), (9, .int .u64 (((partV a u d false) : Nat) : Int)), (10, .int .i64 (((partE a u d false) : Nat) : Int)), (11, .int .u64 (((partV a u d true) : Nat) : Int)), (12, .int .i64 (((partE a u d true) : Nat) : Int)), (13, .int .u64 (((partV b u d false) : Nat) : Int)), (14, .int .i64 (((partE b u d false) : Nat) : Int)), (16, .bool false), (47, .bool false), (62, .bool false)] (by kernel_rfl) rfl ?_
              refine GL.k rfl hK162 (fun _ _ h => h) ?_
              refine G.seqK fun K166 hK167 => ?_
              refine G.region ?_
              refine GL.run (j := 3) 3 [0, 1, 2, 3, 8, 9, 10, 11, 12, 13, 14, 16, 47, 62, 72] [(0, .int .u64 (a : Int)), (1, .int .u64 (b : Int)), (2, .int .u64 (u : Int)), (3, .int .u64 (d : Int)), (8, .bool false), (9, .int .u64 (((partV a u d false) : Nat) : Int)), (10, .int .i64 (((partE a u d false) : Nat) : Int)), (11, .int .u64 (((partV a u d true) : Nat) : Int)), (12, .int .i64 (((partE a u d true) : Nat) : Int)), (13, .int .u64 (((partV b u d false) : Nat) : Int)), (14, .int .i64 (((partE b u d false) : Nat) : Int)), (16, .bool false), (47, .bool false), (62, .bool false), (72, .bool ((((partE a u d false) : Nat) : Int) != 0))] (by kernel_rfl) rfl ?_
              have hb168 : ((((partE a u d false) : Nat) : Int) != 0) = false := by assumption
              rw [hb168]
              refine GL.run (j := 7) 4 [0, 1, 2, 3, 8, 9, 10, 11, 12, 13, 14, 16, 47, 62, 76] [(0, .int .u64 (a : Int)), (1, .int .u64 (b : Int)), (2, .int .u64 (u : Int)), (3, .int .u64 (d : Int)), (8, .bool false), (9, .int .u64 (((partV a u d false) : Nat) : Int)), (10, .int .i64 (((partE a u d false) : Nat) : Int)), (11, .int .u64 (((partV a u d true) : Nat) : Int)), (12, .int .i64 (((partE a u d true) : Nat) : Int)), (13, .int .u64 (((partV b u d false) : Nat) : Int)), (14, .int .i64 (((partE b u d false) : Nat) : Int)), (16, .bool false), (47, .bool false), (62, .bool false), (76, .bool ((((partE b u d false) : Nat) : Int) != 0))] (by kernel_rfl) rfl ?_
              cases hb169 : ((((partE b u d false) : Nat) : Int) != 0)
              · skip
                have hb169f : (((partE b u d false) : Nat) : Int) = 0 := by simpa using hb169
                refine GL.run (j := 12) 5 [0, 1, 2, 3, 8, 9, 10, 11, 12, 13, 14, 16, 47, 62, 81] [(0, .int .u64 (a : Int)), (1, .int .u64 (b : Int)), (2, .int .u64 (u : Int)), (3, .int .u64 (d : Int)), (8, .bool false), (9, .int .u64 (((partV a u d false) : Nat) : Int)), (10, .int .i64 (((partE a u d false) : Nat) : Int)), (11, .int .u64 (((partV a u d true) : Nat) : Int)), (12, .int .i64 (((partE a u d true) : Nat) : Int)), (13, .int .u64 (((partV b u d false) : Nat) : Int)), (14, .int .i64 (((partE b u d false) : Nat) : Int)), (16, .bool false), (47, .bool false), (62, .bool false), (81, .bool (decide ((b : Int) < (a : Int))))] (by kernel_rfl) rfl ?_
                cases hb170 : (decide ((b : Int) < (a : Int)))
                · skip
                  have hb170f := of_decide_eq_false hb170
                  refine GL.run (j := 17) 5 [0, 1, 2, 3, 8, 9, 10, 11, 12, 13, 14, 16, 47, 62] [(0, .int .u64 (a : Int)), (1, .int .u64 (b : Int)), (2, .int .u64 (u : Int)), (3, .int .u64 (d : Int)), (8, .bool (decide ((((partV a u d false) : Nat) : Int) ≤ (((partV b u d false) : Nat) : Int)))), (9, .int .u64 (((partV a u d false) : Nat) : Int)), (10, .int .i64 (((partE a u d false) : Nat) : Int)), (11, .int .u64 (((partV a u d true) : Nat) : Int)), (12, .int .i64 (((partE a u d true) : Nat) : Int)), (13, .int .u64 (((partV b u d false) : Nat) : Int)), (14, .int .i64 (((partE b u d false) : Nat) : Int)), (16, .bool false), (47, .bool false), (62, .bool false)] (by kernel_rfl) rfl ?_
                  refine GL.k rfl hK167 (fun _ _ h => h) ?_
                  refine G.ret ?_
                  intro F_ hF_ hM_
                  refine hRet _ _ (bodyPost_1 rfl (RV.tmp rfl) ?_ F_ hF_ hM_)
                  cases hb171 : (decide ((((partV a u d false) : Nat) : Int) ≤ (((partV b u d false) : Nat) : Int)))
                  · skip
                    have hb171f := of_decide_eq_false hb171
                    exfalso
                    omega
                  · skip
                    have hb171f := of_decide_eq_true hb171
                    exact ⟨rfl, H164.sub (List.nil_sublist _)⟩
                · skip
                  have hb170f := of_decide_eq_true hb170
                  refine GL.run (j := 17) 5 [0, 1, 2, 3, 8, 9, 10, 11, 12, 13, 14, 16, 47, 62] [(0, .int .u64 (a : Int)), (1, .int .u64 (b : Int)), (2, .int .u64 (u : Int)), (3, .int .u64 (d : Int)), (8, .bool true), (9, .int .u64 (((partV a u d false) : Nat) : Int)), (10, .int .i64 (((partE a u d false) : Nat) : Int)), (11, .int .u64 (((partV a u d true) : Nat) : Int)), (12, .int .i64 (((partE a u d true) : Nat) : Int)), (13, .int .u64 (((partV b u d false) : Nat) : Int)), (14, .int .i64 (((partE b u d false) : Nat) : Int)), (16, .bool false), (47, .bool false), (62, .bool false)] (by kernel_rfl) rfl ?_
                  refine GL.k rfl hK167 (fun _ _ h => h) ?_
                  refine G.ret ?_
                  intro F_ hF_ hM_
                  refine hRet _ _ (bodyPost_1 rfl (RV.tmp rfl) ?_ F_ hF_ hM_)
                  exact ⟨rfl, H164.sub (List.nil_sublist _)⟩
              · skip
                have hb169f : (((partE b u d false) : Nat) : Int) ≠ 0 := by simpa using hb169
                refine GL.run (j := 17) 10 [0, 1, 2, 3, 8, 9, 10, 11, 12, 13, 14, 16, 47, 62] [(0, .int .u64 (a : Int)), (1, .int .u64 (b : Int)), (2, .int .u64 (u : Int)), (3, .int .u64 (d : Int)), (8, .bool true), (9, .int .u64 (((partV a u d false) : Nat) : Int)), (10, .int .i64 (((partE a u d false) : Nat) : Int)), (11, .int .u64 (((partV a u d true) : Nat) : Int)), (12, .int .i64 (((partE a u d true) : Nat) : Int)), (13, .int .u64 (((partV b u d false) : Nat) : Int)), (14, .int .i64 (((partE b u d false) : Nat) : Int)), (16, .bool false), (47, .bool false), (62, .bool false)] (by kernel_rfl) rfl ?_
                refine GL.k rfl hK167 (fun _ _ h => h) ?_
                refine G.ret ?_
                intro F_ hF_ hM_
                refine hRet _ _ (bodyPost_1 rfl (RV.tmp rfl) ?_ F_ hF_ hM_)
                exact ⟨rfl, H164.sub (List.nil_sublist _)⟩
            · skip
              have hb160f : (((partE a u d false) : Nat) : Int) ≠ (((partE a u d true) : Nat) : Int) := by simpa using hb160
              refine GL.run (j := 15) 4 [0, 1, 2, 3, 8, 9, 10, 11, 12, 16, 47, 62] [(0, .int .u64 (a : Int)), (1, .int .u64 (b : Int)), (2, .int .u64 (u : Int)), (3, .int .u64 (d : Int)), (8, .bool false), (9, .int .u64 (((partV a u d false) : Nat) : Int)), (10, .int .i64 (((partE a u d false) : Nat) : Int)), (11, .int .u64 (((partV a u d true) : Nat) : Int)), (12, .int .i64 (((partE a u d true) : Nat) : Int)), (16, .bool false), (47, .bool false), (62, .bool ((((partE a u d true) : Nat) : Int) != 4))] (by kernel_rfl) rfl ?_
              refine GL.k rfl hK157 (fun _ _ h => h) ?_
              cases hb172 : ((((partE a u d true) : Nat) : Int) != 4)
              · skip
                have hb172f : (((partE a u d true) : Nat) : Int) = 4 := by simpa using hb172
                refine G.no rfl ?_
                refine G.skipK hK155 (fun _ _ h => h) ?_
                refine G.seqK fun K173 hK174 => ?_
                refine G.region ?_
                refine GL.run (j := 3) 3 [0, 1, 2, 3, 8, 9, 10, 11, 12, 16, 47, 62, 64, 65, 66] [(0, .int .u64 (a : Int)), (1, .int .u64 (b : Int)), (2, .int .u64 (u : Int)), (3, .int .u64 (d : Int)), (8, .bool false), (9, .int .u64 (((partV a u d false) : Nat) : Int)), (10, .int .i64 (((partE a u d false) : Nat) : Int)), (11, .int .u64 (((partV a u d true) : Nat) : Int)), (12, .int .i64 (((partE a u d true) : Nat) : Int)), (16, .bool false), (47, .bool false), (62, .bool false), (64, .int .u64 (b : Int)), (65, .int .u64 (u : Int)), (66, .int .u64 (d : Int))] (by kernel_rfl) rfl ?_
                refine GL.call (j := 4) (Part_downA b u d hb hu hd w17) (by kernel_rfl) rfl (fun e_ w175 hR => ?_)
                obtain ⟨rfl, H177⟩ := hR
                have H176 : Hp w [] [] w175 := H18.callNil H177
                refine ⟨_, rfl, [0, 1, 2, 3, 8, 9, 10, 11, 12, 16, 47, 62, 67], [(0, .int .u64 (a : Int)), (1, .int .u64 (b : Int)), (2, .int .u64 (u : Int)), (3, .int .u64 (d : Int)), (8, .bool false), (9, .int .u64 (((partV a u d false) : Nat) : Int)), (10, .int .i64 (((partE a u d false) : Nat) : Int)), (11, .int .u64 (((partV a u d true) : Nat) : Int)), (12, .int .i64 (((partE a u d true) : Nat) : Int)), (16, .bool false), (47, .bool false), (62, .bool false), (67, .tuple #[.int .u64 (((partV b u d false) : Nat) : Int), .int .i64 (((partE b u d false) : Nat) : Int)])], by kernel_rfl, ?_⟩
                refine GL.run (j := 9) 5 [0, 1, 2, 3, 8, 9, 10, 11, 12, 13, 14, 16, 47, 62] [(0, .int .u64 (a : Int)), (1, .int .u64 (b : Int)), (2, .int .u64 (u : Int)), (3, .int .u64 (d : Int)), (8, .bool false), (9, .int .u64 (((partV a u d false) : Nat) : Int)), (10, .int .i64 (((partE a u d false) : Nat) : Int)), (11, .int .u64 (((partV a u d true) : Nat) : Int)), (12, .int .i64 (((partE a u d true) : Nat) : Int)), (13, .int .u64 (((partV b u d false) : Nat) : Int)), (14, .int .i64 (((partE b u d false) : Nat) : Int)), (16, .bool false), (47, .bool false), (62, .bool false)] (by kernel_rfl) rfl ?_
                refine GL.k rfl hK174 (fun _ _ h => h) ?_
                refine G.seqK fun K178 hK179 => ?_
                refine G.region ?_
                refine GL.run (j := 3) 3 [0, 1, 2, 3, 8, 9, 10, 11, 12, 13, 14, 16, 47, 62, 72] [(0, .int .u64 (a : Int)), (1, .int .u64 (b : Int)), (2, .int .u64 (u : Int)), (3, .int .u64 (d : Int)), (8, .bool false), (9, .int .u64 (((partV a u d false) : Nat) : Int)), (10, .int .i64 (((partE a u d false) : Nat) : Int)), (11, .int .u64 (((partV a u d true) : Nat) : Int)), (12, .int .i64 (((partE a u d true) : Nat) : Int)), (13, .int .u64 (((partV b u d false) : Nat) : Int)), (14, .int .i64 (((partE b u d false) : Nat) : Int)), (16, .bool false), (47, .bool false), (62, .bool false), (72, .bool ((((partE a u d false) : Nat) : Int) != 0))] (by kernel_rfl) rfl ?_
                have hb180 : ((((partE a u d false) : Nat) : Int) != 0) = false := by assumption
                rw [hb180]
                refine GL.run (j := 7) 4 [0, 1, 2, 3, 8, 9, 10, 11, 12, 13, 14, 16, 47, 62, 76] [(0, .int .u64 (a : Int)), (1, .int .u64 (b : Int)), (2, .int .u64 (u : Int)), (3, .int .u64 (d : Int)), (8, .bool false), (9, .int .u64 (((partV a u d false) : Nat) : Int)), (10, .int .i64 (((partE a u d false) : Nat) : Int)), (11, .int .u64 (((partV a u d true) : Nat) : Int)), (12, .int .i64 (((partE a u d true) : Nat) : Int)), (13, .int .u64 (((partV b u d false) : Nat) : Int)), (14, .int .i64 (((partE b u d false) : Nat) : Int)), (16, .bool false), (47, .bool false), (62, .bool false), (76, .bool ((((partE b u d false) : Nat) : Int) != 0))] (by kernel_rfl) rfl ?_
                cases hb181 : ((((partE b u d false) : Nat) : Int) != 0)
                · skip
                  have hb181f : (((partE b u d false) : Nat) : Int) = 0 := by simpa using hb181
                  refine GL.run (j := 12) 5 [0, 1, 2, 3, 8, 9, 10, 11, 12, 13, 14, 16, 47, 62, 81] [(0, .int .u64 (a : Int)), (1, .int .u64 (b : Int)), (2, .int .u64 (u : Int)), (3, .int .u64 (d : Int)), (8, .bool false), (9, .int .u64 (((partV a u d false) : Nat) : Int)), (10, .int .i64 (((partE a u d false) : Nat) : Int)), (11, .int .u64 (((partV a u d true) : Nat) : Int)), (12, .int .i64 (((partE a u d true) : Nat) : Int)), (13, .int .u64 (((partV b u d false) : Nat) : Int)), (14, .int .i64 (((partE b u d false) : Nat) : Int)), (16, .bool false), (47, .bool false), (62, .bool false), (81, .bool (decide ((b : Int) < (a : Int))))] (by kernel_rfl) rfl ?_
                  cases hb182 : (decide ((b : Int) < (a : Int)))
                  · skip
                    have hb182f := of_decide_eq_false hb182
                    refine GL.run (j := 17) 5 [0, 1, 2, 3, 8, 9, 10, 11, 12, 13, 14, 16, 47, 62] [(0, .int .u64 (a : Int)), (1, .int .u64 (b : Int)), (2, .int .u64 (u : Int)), (3, .int .u64 (d : Int)), (8, .bool (decide ((((partV a u d false) : Nat) : Int) ≤ (((partV b u d false) : Nat) : Int)))), (9, .int .u64 (((partV a u d false) : Nat) : Int)), (10, .int .i64 (((partE a u d false) : Nat) : Int)), (11, .int .u64 (((partV a u d true) : Nat) : Int)), (12, .int .i64 (((partE a u d true) : Nat) : Int)), (13, .int .u64 (((partV b u d false) : Nat) : Int)), (14, .int .i64 (((partE b u d false) : Nat) : Int)), (16, .bool false), (47, .bool false), (62, .bool false)] (by kernel_rfl) rfl ?_
                    refine GL.k rfl hK179 (fun _ _ h => h) ?_
                    refine G.ret ?_
                    intro F_ hF_ hM_
                    refine hRet _ _ (bodyPost_1 rfl (RV.tmp rfl) ?_ F_ hF_ hM_)
                    cases hb183 : (decide ((((partV a u d false) : Nat) : Int) ≤ (((partV b u d false) : Nat) : Int)))
                    · skip
                      have hb183f := of_decide_eq_false hb183
                      exfalso
                      omega
                    · skip
                      have hb183f := of_decide_eq_true hb183
                      exact ⟨rfl, H176.sub (List.nil_sublist _)⟩
                  · skip
                    have hb182f := of_decide_eq_true hb182
                    refine GL.run (j := 17) 5 [0, 1, 2, 3, 8, 9, 10, 11, 12, 13, 14, 16, 47, 62] [(0, .int .u64 (a : Int)), (1, .int .u64 (b : Int)), (2, .int .u64 (u : Int)), (3, .int .u64 (d : Int)), (8, .bool true), (9, .int .u64 (((partV a u d false) : Nat) : Int)), (10, .int .i64 (((partE a u d false) : Nat) : Int)), (11, .int .u64 (((partV a u d true) : Nat) : Int)), (12, .int .i64 (((partE a u d true) : Nat) : Int)), (13, .int .u64 (((partV b u d false) : Nat) : Int)), (14, .int .i64 (((partE b u d false) : Nat) : Int)), (16, .bool false), (47, .bool false), (62, .bool false)] (by kernel_rfl) rfl ?_
                    refine GL.k rfl hK179 (fun _ _ h => h) ?_
                    refine G.ret ?_
                    intro F_ hF_ hM_
                    refine hRet _ _ (bodyPost_1 rfl (RV.tmp rfl) ?_ F_ hF_ hM_)
                    exact ⟨rfl, H176.sub (List.nil_sublist _)⟩
                · skip
                  have hb181f : (((partE b u d false) : Nat) : Int) ≠ 0 := by simpa using hb181
                  refine GL.run (j := 17) 10 [0, 1, 2, 3, 8, 9, 10, 11, 12, 13, 14, 16, 47, 62] [(0, .int .u64 (a : Int)), (1, .int .u64 (b : Int)), (2, .int .u64 (u : Int)), (3, .int .u64 (d : Int)), (8, .bool true), (9, .int .u64 (((partV a u d false) : Nat) : Int)), (10, .int .i64 (((partE a u d false) : Nat) : Int)), (11, .int .u64 (((partV a u d true) : Nat) : Int)), (12, .int .i64 (((partE a u d true) : Nat) : Int)), (13, .int .u64 (((partV b u d false) : Nat) : Int)), (14, .int .i64 (((partE b u d false) : Nat) : Int)), (16, .bool false), (47, .bool false), (62, .bool false)] (by kernel_rfl) rfl ?_
                  refine GL.k rfl hK179 (fun _ _ h => h) ?_
                  refine G.ret ?_
                  intro F_ hF_ hM_
                  refine hRet _ _ (bodyPost_1 rfl (RV.tmp rfl) ?_ F_ hF_ hM_)
                  exact ⟨rfl, H176.sub (List.nil_sublist _)⟩
              · skip
                have hb172f : (((partE a u d true) : Nat) : Int) ≠ 4 := by simpa using hb172
                refine G.yes rfl ?_
                refine G.seqK fun K184 hK185 => ?_
                refine G.region ?_
                refine GL.run (j := 1) 1 [0, 1, 2, 3, 8, 9, 10, 11, 12, 16, 47, 62] [(0, .int .u64 (a : Int)), (1, .int .u64 (b : Int)), (2, .int .u64 (u : Int)), (3, .int .u64 (d : Int)), (8, .bool false), (9, .int .u64 (((partV a u d false) : Nat) : Int)), (10, .int .i64 (((partE a u d false) : Nat) : Int)), (11, .int .u64 (((partV a u d true) : Nat) : Int)), (12, .int .i64 (((partE a u d true) : Nat) : Int)), (16, .bool false), (47, .bool false), (62, .bool true)] (by kernel_rfl) rfl ?_
                refine GL.k rfl hK185 (fun _ _ h => h) ?_
                refine G.ret ?_
                intro F_ hF_ hM_
                refine hRet _ _ (bodyPost_1 rfl (RV.tmp rfl) ?_ F_ hF_ hM_)
                exfalso
                omega
          · skip
            have hb159f : (((partE a u d false) : Nat) : Int) ≠ 0 := by simpa using hb159
            refine GL.run (j := 15) 8 [0, 1, 2, 3, 8, 9, 10, 11, 12, 16, 47, 62] [(0, .int .u64 (a : Int)), (1, .int .u64 (b : Int)), (2, .int .u64 (u : Int)), (3, .int .u64 (d : Int)), (8, .bool false), (9, .int .u64 (((partV a u d false) : Nat) : Int)), (10, .int .i64 (((partE a u d false) : Nat) : Int)), (11, .int .u64 (((partV a u d true) : Nat) : Int)), (12, .int .i64 (((partE a u d true) : Nat) : Int)), (16, .bool false), (47, .bool false), (62, .bool true)] (by kernel_rfl) rfl ?_
            refine GL.k rfl hK157 (fun _ _ h => h) ?_
            refine G.yes rfl ?_
            refine G.seqK fun K186 hK187 => ?_
            refine G.region ?_
            refine GL.run (j := 1) 1 [0, 1, 2, 3, 8, 9, 10, 11, 12, 16, 47, 62] [(0, .int .u64 (a : Int)), (1, .int .u64 (b : Int)), (2, .int .u64 (u : Int)), (3, .int .u64 (d : Int)), (8, .bool false), (9, .int .u64 (((partV a u d false) : Nat) : Int)), (10, .int .i64 (((partE a u d false) : Nat) : Int)), (11, .int .u64 (((partV a u d true) : Nat) : Int)), (12, .int .i64 (((partE a u d true) : Nat) : Int)), (16, .bool false), (47, .bool false), (62, .bool true)] (by kernel_rfl) rfl ?_
            refine GL.k rfl hK187 (fun _ _ h => h) ?_
            refine G.ret ?_
            intro F_ hF_ hM_
            refine hRet _ _ (bodyPost_1 rfl (RV.tmp rfl) ?_ F_ hF_ hM_)
            exfalso
            omega
        · skip
          have hb153f : (((partV a u d true) : Nat) : Int) ≠ (((partV a u d false) + 1 : Nat) : Int) := by simpa using hb153
          refine G.yes rfl ?_
          refine G.seqK fun K188 hK189 => ?_
          refine G.region ?_
          refine GL.run (j := 1) 1 [0, 1, 2, 3, 8, 9, 10, 11, 12, 16, 47] [(0, .int .u64 (a : Int)), (1, .int .u64 (b : Int)), (2, .int .u64 (u : Int)), (3, .int .u64 (d : Int)), (8, .bool false), (9, .int .u64 (((partV a u d false) : Nat) : Int)), (10, .int .i64 (((partE a u d false) : Nat) : Int)), (11, .int .u64 (((partV a u d true) : Nat) : Int)), (12, .int .i64 (((partE a u d true) : Nat) : Int)), (16, .bool false), (47, .bool true)] (by kernel_rfl) rfl ?_
          refine GL.k rfl hK189 (fun _ _ h => h) ?_
          refine G.ret ?_
          intro F_ hF_ hM_
          refine hRet _ _ (bodyPost_1 rfl (RV.tmp rfl) ?_ F_ hF_ hM_)
          exfalso
          omega
end Go.Proofs.Ytgbhiklengafiaa
