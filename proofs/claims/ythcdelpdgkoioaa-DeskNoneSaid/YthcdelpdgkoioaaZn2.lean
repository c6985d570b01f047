/- DeskNone: the row. -/
import Derived.Test.YthcdelpdgkoioaaZn1
set_option linter.unusedVariables false
set_option maxRecDepth 100000
namespace Go.Proofs.Ythcdelpdgkoioaa
open Go.RowKit
set_option maxHeartbeats 4000000 in
theorem next_calls (S : List Nat) (d room : Nat) (cl : Bool) (a0 a1 a2 : Lane) (Gg : List (Option Addr × Nat × Nat × TypeId × List Value)) (w : World) (h0 : Hp w S [.blk d [.chan (some a0.ch), .chan (some a1.ch), .chan (some a2.ch), .int .i64 (a0.p : Int), .int .i64 (a1.p : Int), .int .i64 (a2.p : Int), .bool cl] 52, .obj a0.ch (chO room a0.l cl a0.s a0.r), .obj a1.ch (chO room a1.l cl a1.s a1.r), .obj a2.ch (chO room a2.l cl a2.s a2.r), .bag Gg] w) (hz0 : a0.z) (hz1 : a1.z) (hz2 : a2.z) : Calls Try.prog 18 #[pt d 0] w fun e w' => e = .returned (.int .i64 (tkI a0 a1 a2)) ∧ Hp w S [.blk d [.chan (some a0.ch), .chan (some a1.ch), .chan (some a2.ch), .int .i64 (a0.p : Int), .int .i64 (a1.p : Int), .int .i64 (a2.p : Int), .bool cl] 52, .obj a0.ch (chO room a0.l cl a0.s a0.r), .obj a1.ch (chO room a1.l cl a1.s a1.r), .obj a2.ch (chO room a2.l cl a2.s a2.r), .bag Gg] w' := by
  refine calls_G (args := [pt d 0]) Try.func18 rfl Try.ntmps18 rfl ?_
  intro Q0 hRet hNor hPan
  have H := h0
  have H : Hp w S [.blk d [.chan (some a0.ch), .chan (some a1.ch), .chan (some a2.ch), .int .i64 (a0.p : Int), .int .i64 (a1.p : Int), .int .i64 (a2.p : Int), .bool cl] 52, .obj a0.ch (chO room a0.l cl a0.s a0.r), .obj a1.ch (chO room a1.l cl a1.s a1.r), .obj a2.ch (chO room a2.l cl a2.s a2.r), .bag Gg] w := H
  refine G.seqK fun K1 hK2 => ?_
  refine G.region ?_
  refine GL.run (j := 1) 1 [0] [(0, pt d 0)] (by kernel_rfl) rfl ?_
  refine GL.k rfl hK2 (fun _ _ h => h) ?_
  refine G.scope ?_
  refine G.seqK fun K3 hK4 => ?_
  refine G.region ?_
  refine GL.run (j := 1) 1 [0, 3] [(0, pt d 0), (3, .int .i64 (-1))] (by kernel_rfl) rfl ?_
  refine GL.k rfl hK4 (fun _ _ h => h) ?_
  refine G.seqK fun K5 hK6 => ?_
  refine G.labelK hK6 (fun _ _ h => h) ?_
  refine G.seqK fun K7 hK8 => ?_
  refine G.seqK fun K9 hK10 => ?_
  refine G.region ?_
  refine GL.run (j := 3) 3 [0, 3, 8] [(0, pt d 0), (3, .int .i64 (-1)), (8, pt d 0)] (by kernel_rfl) rfl ?_
  refine GL.sem (j := 4) (H.ldA (o := 0) (ty := 50) (m := 3) (sub := [.chan (some a0.ch), .chan (some a1.ch), .chan (some a2.ch)]) 0 rfl (by kernel_rfl) rfl rfl) [0, 3, 9] [(0, pt d 0), (3, .int .i64 (-1)), (9, .agg #[.chan (some a0.ch), .chan (some a1.ch), .chan (some a2.ch)])] (by kernel_rfl) (by kernel_rfl) rfl ?_
  refine GL.run (j := 5) 1 [0, 3, 9, 10] [(0, pt d 0), (3, .int .i64 (-1)), (9, .agg #[.chan (some a0.ch), .chan (some a1.ch), .chan (some a2.ch)]), (10, .int .i64 0)] (by kernel_rfl) rfl ?_
  refine GL.k rfl hK10 (fun _ _ h => h) ?_
  refine G.block ?_
  refine G.unroll 3 ?_
  refine G.seqK fun K11 hK12 => ?_
  refine G.region ?_
  refine GL.run (j := 1) 1 [0, 3, 9, 10, 11] [(0, pt d 0), (3, .int .i64 (-1)), (9, .agg #[.chan (some a0.ch), .chan (some a1.ch), .chan (some a2.ch)]), (10, .int .i64 0), (11, .bool true)] (by kernel_rfl) rfl ?_
  refine GL.k rfl hK12 (fun _ _ h => h) ?_
  refine G.seqK fun K13 hK14 => ?_
  refine G.yes rfl ?_
  refine G.skipK hK14 (fun _ _ h => h) ?_
  refine G.seqK fun K15 hK16 => ?_
  refine G.block ?_
  refine G.seqK fun K17 hK18 => ?_
  refine G.region ?_
  refine GL.run (j := 4) 4 [0, 3, 4, 5, 9, 10] [(0, pt d 0), (3, .int .i64 (-1)), (4, .int .i64 0), (5, .chan (some a0.ch)), (9, .agg #[.chan (some a0.ch), .chan (some a1.ch), .chan (some a2.ch)]), (10, .int .i64 0)] (by kernel_rfl) rfl ?_
  refine GL.k rfl hK18 (fun _ _ h => h) ?_
  refine G.block ?_
  refine G.seqK fun K19 hK20 => ?_
  refine G.region ?_
  refine GL.run (j := 1) 1 [0, 3, 4, 9, 10, 15] [(0, pt d 0), (3, .int .i64 (-1)), (4, .int .i64 0), (9, .agg #[.chan (some a0.ch), .chan (some a1.ch), .chan (some a2.ch)]), (10, .int .i64 0), (15, .chan (some a0.ch))] (by kernel_rfl) rfl ?_
  refine GL.sem (j := 2) (H.lenChan (P := Try.prog) (t := 49) (ty := 3) (l := a0.l) 1 rfl Try.underlying49) [0, 3, 4, 9, 10, 16] [(0, pt d 0), (3, .int .i64 (-1)), (4, .int .i64 0), (9, .agg #[.chan (some a0.ch), .chan (some a1.ch), .chan (some a2.ch)]), (10, .int .i64 0), (16, .int .i64 (a0.l.length : Int))] (by kernel_rfl) (by kernel_rfl) rfl ?_
  refine GL.run (j := 4) 2 [0, 3, 4, 9, 10, 14] [(0, pt d 0), (3, .int .i64 (-1)), (4, .int .i64 0), (9, .agg #[.chan (some a0.ch), .chan (some a1.ch), .chan (some a2.ch)]), (10, .int .i64 0), (14, .bool ((a0.l.length : Int) == 0))] (by kernel_rfl) rfl ?_
  refine GL.k rfl hK20 (fun _ _ h => h) ?_
  cases hb21 : ((a0.l.length : Int) == 0)
  · skip
    have hb21f := ne_of_beq_false hb21
    refine G.no rfl ?_
    refine G.seqK fun K22 hK23 => ?_
    refine G.region ?_
    refine GL.run (j := 5) 5 [0, 3, 4, 9, 10, 28] [(0, pt d 0), (3, .int .i64 (-1)), (4, .int .i64 0), (9, .agg #[.chan (some a0.ch), .chan (some a1.ch), .chan (some a2.ch)]), (10, .int .i64 0), (28, pt d 3)] (by kernel_rfl) rfl ?_
    refine GL.sem (j := 6) (H.ld (o := 3) (ty := 3) (v := .int .i64 (a0.p : Int)) 0 rfl (by kernel_rfl) rfl) [0, 3, 4, 9, 10, 29] [(0, pt d 0), (3, .int .i64 (-1)), (4, .int .i64 0), (9, .agg #[.chan (some a0.ch), .chan (some a1.ch), .chan (some a2.ch)]), (10, .int .i64 0), (29, .int .i64 (a0.p : Int))] (by kernel_rfl) (by kernel_rfl) rfl ?_
    refine GL.run (j := 8) 2 [0, 3, 4, 9, 10, 23] [(0, pt d 0), (3, .int .i64 (-1)), (4, .int .i64 0), (9, .agg #[.chan (some a0.ch), .chan (some a1.ch), .chan (some a2.ch)]), (10, .int .i64 0), (23, .bool (decide (4 ≤ (a0.p : Int))))] (by kernel_rfl) rfl ?_
    refine GL.k rfl hK23 (fun _ _ h => h) ?_
    cases hb24 : (decide (4 ≤ (a0.p : Int)))
    · skip
      have hb24f := of_decide_eq_false hb24
      refine G.no rfl ?_
      refine G.seqK fun K25 hK26 => ?_
      refine G.region ?_
      refine GL.run (j := 3) 3 [0, 3, 4, 9, 10, 32] [(0, pt d 0), (3, .int .i64 (-1)), (4, .int .i64 0), (9, .agg #[.chan (some a0.ch), .chan (some a1.ch), .chan (some a2.ch)]), (10, .int .i64 0), (32, .bool true)] (by kernel_rfl) rfl ?_
      refine GL.k rfl hK26 (fun _ _ h => h) ?_
      refine G.yes rfl ?_
      refine G.region ?_
      refine GL.run (j := 2) 2 [0, 3, 9, 10] [(0, pt d 0), (3, .int .i64 0), (9, .agg #[.chan (some a0.ch), .chan (some a1.ch), .chan (some a2.ch)]), (10, .int .i64 0)] (by kernel_rfl) rfl ?_
      refine GL.k rfl hK16 (fun _ _ h => h) ?_
      refine G.region ?_
      refine GL.run (j := 2) 2 [0, 3, 9, 10] [(0, pt d 0), (3, .int .i64 0), (9, .agg #[.chan (some a0.ch), .chan (some a1.ch), .chan (some a2.ch)]), (10, .int .i64 1)] (by kernel_rfl) rfl ?_
      refine GL.round rfl ?_
      refine G.seqK fun K27 hK28 => ?_
      refine G.region ?_
      refine GL.run (j := 1) 1 [0, 3, 9, 10, 11] [(0, pt d 0), (3, .int .i64 0), (9, .agg #[.chan (some a0.ch), .chan (some a1.ch), .chan (some a2.ch)]), (10, .int .i64 1), (11, .bool true)] (by kernel_rfl) rfl ?_
      refine GL.k rfl hK28 (fun _ _ h => h) ?_
      refine G.seqK fun K29 hK30 => ?_
      refine G.yes rfl ?_
      refine G.skipK hK30 (fun _ _ h => h) ?_
      refine G.seqK fun K31 hK32 => ?_
      refine G.block ?_
      refine G.seqK fun K33 hK34 => ?_
      refine G.region ?_
      refine GL.run (j := 4) 4 [0, 3, 4, 5, 9, 10] [(0, pt d 0), (3, .int .i64 0), (4, .int .i64 1), (5, .chan (some a1.ch)), (9, .agg #[.chan (some a0.ch), .chan (some a1.ch), .chan (some a2.ch)]), (10, .int .i64 1)] (by kernel_rfl) rfl ?_
      refine GL.k rfl hK34 (fun _ _ h => h) ?_
      refine G.block ?_
      refine G.seqK fun K35 hK36 => ?_
      refine G.region ?_
      refine GL.run (j := 1) 1 [0, 3, 4, 9, 10, 15] [(0, pt d 0), (3, .int .i64 0), (4, .int .i64 1), (9, .agg #[.chan (some a0.ch), .chan (some a1.ch), .chan (some a2.ch)]), (10, .int .i64 1), (15, .chan (some a1.ch))] (by kernel_rfl) rfl ?_
      refine GL.sem (j := 2) (H.lenChan (P := Try.prog) (t := 49) (ty := 3) (l := a1.l) 2 rfl Try.underlying49) [0, 3, 4, 9, 10, 16] [(0, pt d 0), (3, .int .i64 0), (4, .int .i64 1), (9, .agg #[.chan (some a0.ch), .chan (some a1.ch), .chan (some a2.ch)]), (10, .int .i64 1), (16, .int .i64 (a1.l.length : Int))] (by kernel_rfl) (by kernel_rfl) rfl ?_
      refine GL.run (j := 4) 2 [0, 3, 4, 9, 10, 14] [(0, pt d 0), (3, .int .i64 0), (4, .int .i64 1), (9, .agg #[.chan (some a0.ch), .chan (some a1.ch), .chan (some a2.ch)]), (10, .int .i64 1), (14, .bool ((a1.l.length : Int) == 0))] (by kernel_rfl) rfl ?_
      refine GL.k rfl hK36 (fun _ _ h => h) ?_
      cases hb37 : ((a1.l.length : Int) == 0)
      · skip
        have hb37f := ne_of_beq_false hb37
        refine G.no rfl ?_
        refine G.seqK fun K38 hK39 => ?_
        refine G.region ?_
        refine GL.run (j := 5) 5 [0, 3, 4, 9, 10, 28] [(0, pt d 0), (3, .int .i64 0), (4, .int .i64 1), (9, .agg #[.chan (some a0.ch), .chan (some a1.ch), .chan (some a2.ch)]), (10, .int .i64 1), (28, pt d 4)] (by kernel_rfl) rfl ?_
        refine GL.sem (j := 6) (H.ld (o := 4) (ty := 3) (v := .int .i64 (a1.p : Int)) 0 rfl (by kernel_rfl) rfl) [0, 3, 4, 9, 10, 29] [(0, pt d 0), (3, .int .i64 0), (4, .int .i64 1), (9, .agg #[.chan (some a0.ch), .chan (some a1.ch), .chan (some a2.ch)]), (10, .int .i64 1), (29, .int .i64 (a1.p : Int))] (by kernel_rfl) (by kernel_rfl) rfl ?_
        refine GL.run (j := 8) 2 [0, 3, 4, 9, 10, 23] [(0, pt d 0), (3, .int .i64 0), (4, .int .i64 1), (9, .agg #[.chan (some a0.ch), .chan (some a1.ch), .chan (some a2.ch)]), (10, .int .i64 1), (23, .bool (decide (4 ≤ (a1.p : Int))))] (by kernel_rfl) rfl ?_
        refine GL.k rfl hK39 (fun _ _ h => h) ?_
        cases hb40 : (decide (4 ≤ (a1.p : Int)))
        · skip
          have hb40f := of_decide_eq_false hb40
          refine G.no rfl ?_
          refine G.seqK fun K41 hK42 => ?_
          refine G.region ?_
          refine GL.run (j := 3) 3 [0, 3, 4, 9, 10, 32] [(0, pt d 0), (3, .int .i64 0), (4, .int .i64 1), (9, .agg #[.chan (some a0.ch), .chan (some a1.ch), .chan (some a2.ch)]), (10, .int .i64 1), (32, .bool false)] (by kernel_rfl) rfl ?_
          refine GL.k rfl hK42 (fun _ _ h => h) ?_
          refine G.no rfl ?_
          refine G.skipK hK32 (fun _ _ h => h) ?_
          refine G.region ?_
          refine GL.run (j := 2) 2 [0, 3, 9, 10] [(0, pt d 0), (3, .int .i64 0), (9, .agg #[.chan (some a0.ch), .chan (some a1.ch), .chan (some a2.ch)]), (10, .int .i64 2)] (by kernel_rfl) rfl ?_
          refine GL.round rfl ?_
          refine G.seqK fun K43 hK44 => ?_
          refine G.region ?_
          refine GL.run (j := 1) 1 [0, 3, 9, 10, 11] [(0, pt d 0), (3, .int .i64 0), (9, .agg #[.chan (some a0.ch), .chan (some a1.ch), .chan (some a2.ch)]), (10, .int .i64 2), (11, .bool true)] (by kernel_rfl) rfl ?_
          refine GL.k rfl hK44 (fun _ _ h => h) ?_
          refine G.seqK fun K45 hK46 => ?_
          refine G.yes rfl ?_
          refine G.skipK hK46 (fun _ _ h => h) ?_
          refine G.seqK fun K47 hK48 => ?_
          refine G.block ?_
          refine G.seqK fun K49 hK50 => ?_
          refine G.region ?_
          refine GL.run (j := 4) 4 [0, 3, 4, 5, 9, 10] [(0, pt d 0), (3, .int .i64 0), (4, .int .i64 2), (5, .chan (some a2.ch)), (9, .agg #[.chan (some a0.ch), .chan (some a1.ch), .chan (some a2.ch)]), (10, .int .i64 2)] (by kernel_rfl) rfl ?_
          refine GL.k rfl hK50 (fun _ _ h => h) ?_
          refine G.block ?_
          refine G.seqK fun K51 hK52 => ?_
          refine G.region ?_
          refine GL.run (j := 1) 1 [0, 3, 4, 9, 10, 15] [(0, pt d 0), (3, .int .i64 0), (4, .int .i64 2), (9, .agg #[.chan (some a0.ch), .chan (some a1.ch), .chan (some a2.ch)]), (10, .int .i64 2), (15, .chan (some a2.ch))] (by kernel_rfl) rfl ?_
          refine GL.sem (j := 2) (H.lenChan (P := Try.prog) (t := 49) (ty := 3) (l := a2.l) 3 rfl Try.underlying49) [0, 3, 4, 9, 10, 16] [(0, pt d 0), (3, .int .i64 0), (4, .int .i64 2), (9, .agg #[.chan (some a0.ch), .chan (some a1.ch), .chan (some a2.ch)]), (10, .int .i64 2), (16, .int .i64 (a2.l.length : Int))] (by kernel_rfl) (by kernel_rfl) rfl ?_
          refine GL.run (j := 4) 2 [0, 3, 4, 9, 10, 14] [(0, pt d 0), (3, .int .i64 0), (4, .int .i64 2), (9, .agg #[.chan (some a0.ch), .chan (some a1.ch), .chan (some a2.ch)]), (10, .int .i64 2), (14, .bool ((a2.l.length : Int) == 0))] (by kernel_rfl) rfl ?_
          refine GL.k rfl hK52 (fun _ _ h => h) ?_
          cases hb53 : ((a2.l.length : Int) == 0)
          · skip
            have hb53f := ne_of_beq_false hb53
            refine G.no rfl ?_
            refine G.seqK fun K54 hK55 => ?_
            refine G.region ?_
            refine GL.run (j := 5) 5 [0, 3, 4, 9, 10, 28] [(0, pt d 0), (3, .int .i64 0), (4, .int .i64 2), (9, .agg #[.chan (some a0.ch), .chan (some a1.ch), .chan (some a2.ch)]), (10, .int .i64 2), (28, pt d 5)] (by kernel_rfl) rfl ?_
            refine GL.sem (j := 6) (H.ld (o := 5) (ty := 3) (v := .int .i64 (a2.p : Int)) 0 rfl (by kernel_rfl) rfl) [0, 3, 4, 9, 10, 29] [(0, pt d 0), (3, .int .i64 0), (4, .int .i64 2), (9, .agg #[.chan (some a0.ch), .chan (some a1.ch), .chan (some a2.ch)]), (10, .int .i64 2), (29, .int .i64 (a2.p : Int))] (by kernel_rfl) (by kernel_rfl) rfl ?_
            refine GL.run (j := 8) 2 [0, 3, 4, 9, 10, 23] [(0, pt d 0), (3, .int .i64 0), (4, .int .i64 2), (9, .agg #[.chan (some a0.ch), .chan (some a1.ch), .chan (some a2.ch)]), (10, .int .i64 2), (23, .bool (decide (4 ≤ (a2.p : Int))))] (by kernel_rfl) rfl ?_
            refine GL.k rfl hK55 (fun _ _ h => h) ?_
            cases hb56 : (decide (4 ≤ (a2.p : Int)))
            · skip
              have hb56f := of_decide_eq_false hb56
              refine G.no rfl ?_
              refine G.seqK fun K57 hK58 => ?_
              refine G.region ?_
              refine GL.run (j := 3) 3 [0, 3, 4, 9, 10, 32] [(0, pt d 0), (3, .int .i64 0), (4, .int .i64 2), (9, .agg #[.chan (some a0.ch), .chan (some a1.ch), .chan (some a2.ch)]), (10, .int .i64 2), (32, .bool false)] (by kernel_rfl) rfl ?_
              refine GL.k rfl hK58 (fun _ _ h => h) ?_
              refine G.no rfl ?_
              refine G.skipK hK48 (fun _ _ h => h) ?_
              refine G.region ?_
              refine GL.run (j := 2) 2 [0, 3, 9, 10] [(0, pt d 0), (3, .int .i64 0), (9, .agg #[.chan (some a0.ch), .chan (some a1.ch), .chan (some a2.ch)]), (10, .int .i64 3)] (by kernel_rfl) rfl ?_
              refine GL.round rfl ?_
              refine G.seqK fun K59 hK60 => ?_
              refine G.region ?_
              refine GL.run (j := 1) 1 [0, 3, 9, 10, 11] [(0, pt d 0), (3, .int .i64 0), (9, .agg #[.chan (some a0.ch), .chan (some a1.ch), .chan (some a2.ch)]), (10, .int .i64 3), (11, .bool false)] (by kernel_rfl) rfl ?_
              refine GL.k rfl hK60 (fun _ _ h => h) ?_
              refine G.seqK fun K61 hK62 => ?_
              refine G.no rfl ?_
              refine G.exitK hK8 (fun _ _ h => h) ?_
              refine G.seqK fun K63 hK64 => ?_
              refine G.region ?_
              refine GL.run (j := 2) 2 [2] [(2, .int .i64 0)] (by kernel_rfl) rfl ?_
              refine GL.k rfl hK64 (fun _ _ h => h) ?_
              refine G.ret ?_
              intro F_ hF_ hM_
              refine hRet _ _ (bodyPost_1 rfl (RV.tmp rfl) ?_ F_ hF_ hM_)
              have e0 : tkN a0 a1 a2 = 0 := by
                unfold tkN
                repeat' split
                all_goals omega
              rw [show tkI a0 a1 a2 = 0 by unfold tkI; rw [e0]; rfl]
              exact ⟨rfl, H⟩
            · skip
              have hb56f := of_decide_eq_true hb56
              refine G.yes rfl ?_
              refine G.seqK fun K65 hK66 => ?_
              refine G.region ?_
              refine GL.run (j := 2) 2 [2] [(2, .int .i64 2)] (by kernel_rfl) rfl ?_
              refine GL.k rfl hK66 (fun _ _ h => h) ?_
              refine G.ret ?_
              intro F_ hF_ hM_
              refine hRet _ _ (bodyPost_1 rfl (RV.tmp rfl) ?_ F_ hF_ hM_)
              have e0 : tkN a0 a1 a2 = 2 := by
                unfold tkN
                repeat' split
                all_goals omega
              rw [show tkI a0 a1 a2 = 2 by unfold tkI; rw [e0]; rfl]
              exact ⟨rfl, H⟩
          · skip
            have hb53f := eq_of_beq hb53
            refine G.yes rfl ?_
            refine G.seqK fun K67 hK68 => ?_
            refine G.region ?_
            refine GL.run (j := 5) 5 [0, 3, 9, 10, 22] [(0, pt d 0), (3, .int .i64 0), (9, .agg #[.chan (some a0.ch), .chan (some a1.ch), .chan (some a2.ch)]), (10, .int .i64 2), (22, pt d 5)] (by kernel_rfl) rfl ?_
            obtain ⟨w69, r70, H71⟩ := H.st (P := Try.prog) (o := 5) (ty := 3) (v := .int .i64 0) 0 rfl (by kernel_rfl) (by simp) rfl
            have H71 : Hp w S [.blk d [.chan (some a0.ch), .chan (some a1.ch), .chan (some a2.ch), .int .i64 (a0.p : Int), .int .i64 (a1.p : Int), .int .i64 0, .bool cl] 52, .obj a0.ch (chO room a0.l cl a0.s a0.r), .obj a1.ch (chO room a1.l cl a1.s a1.r), .obj a2.ch (chO room a2.l cl a2.s a2.r), .bag Gg] w69 := H71
            refine GL.semU (j := 6) r70 [0, 3, 9, 10] [(0, pt d 0), (3, .int .i64 0), (9, .agg #[.chan (some a0.ch), .chan (some a1.ch), .chan (some a2.ch)]), (10, .int .i64 2)] (by kernel_rfl) rfl rfl rfl ?_
            refine GL.k rfl hK68 (fun _ _ h => h) ?_
            refine G.exitK hK48 (fun _ _ h => h) ?_
            refine G.region ?_
            refine GL.run (j := 2) 2 [0, 3, 9, 10] [(0, pt d 0), (3, .int .i64 0), (9, .agg #[.chan (some a0.ch), .chan (some a1.ch), .chan (some a2.ch)]), (10, .int .i64 3)] (by kernel_rfl) rfl ?_
            refine GL.round rfl ?_
            refine G.seqK fun K72 hK73 => ?_
            refine G.region ?_
            refine GL.run (j := 1) 1 [0, 3, 9, 10, 11] [(0, pt d 0), (3, .int .i64 0), (9, .agg #[.chan (some a0.ch), .chan (some a1.ch), .chan (some a2.ch)]), (10, .int .i64 3), (11, .bool false)] (by kernel_rfl) rfl ?_
            refine GL.k rfl hK73 (fun _ _ h => h) ?_
            refine G.seqK fun K74 hK75 => ?_
            refine G.no rfl ?_
            refine G.exitK hK8 (fun _ _ h => h) ?_
            refine G.seqK fun K76 hK77 => ?_
            refine G.region ?_
            refine GL.run (j := 2) 2 [2] [(2, .int .i64 0)] (by kernel_rfl) rfl ?_
            refine GL.k rfl hK77 (fun _ _ h => h) ?_
            refine G.ret ?_
            intro F_ hF_ hM_
            refine hRet _ _ (bodyPost_1 rfl (RV.tmp rfl) ?_ F_ hF_ hM_)
            have e0 : tkN a0 a1 a2 = 0 := by
              unfold tkN
              repeat' split
              all_goals omega
            rw [show tkI a0 a1 a2 = 0 by unfold tkI; rw [e0]; rfl]
            have HZ : Hp w S [.blk d [.chan (some a0.ch), .chan (some a1.ch), .chan (some a2.ch), .int .i64 (a0.p : Int), .int .i64 (a1.p : Int), .int .i64 (a2.p : Int), .bool cl] 52, .obj a0.ch (chO room a0.l cl a0.s a0.r), .obj a1.ch (chO room a1.l cl a1.s a1.r), .obj a2.ch (chO room a2.l cl a2.s a2.r), .bag Gg] w69 := by rw [show a2.p = 0 from hz2.1 (by omega)]; exact H71
            exact ⟨rfl, HZ⟩
        · skip
          have hb40f := of_decide_eq_true hb40
          refine G.yes rfl ?_
          refine G.seqK fun K78 hK79 => ?_
          refine G.region ?_
          refine GL.run (j := 2) 2 [2] [(2, .int .i64 1)] (by kernel_rfl) rfl ?_
          refine GL.k rfl hK79 (fun _ _ h => h) ?_
          refine G.ret ?_
          intro F_ hF_ hM_
          refine hRet _ _ (bodyPost_1 rfl (RV.tmp rfl) ?_ F_ hF_ hM_)
          have e0 : tkN a0 a1 a2 = 1 := by
            unfold tkN
            repeat' split
            all_goals omega
          rw [show tkI a0 a1 a2 = 1 by unfold tkI; rw [e0]; rfl]
          exact ⟨rfl, H⟩
      · skip
        have hb37f := eq_of_beq hb37
        refine G.yes rfl ?_
        refine G.seqK fun K80 hK81 => ?_
        refine G.region ?_
        refine GL.run (j := 5) 5 [0, 3, 9, 10, 22] [(0, pt d 0), (3, .int .i64 0), (9, .agg #[.chan (some a0.ch), .chan (some a1.ch), .chan (some a2.ch)]), (10, .int .i64 1), (22, pt d 4)] (by kernel_rfl) rfl ?_
        obtain ⟨w82, r83, H84⟩ := H.st (P := Try.prog) (o := 4) (ty := 3) (v := .int .i64 0) 0 rfl (by kernel_rfl) (by simp) rfl
        have H84 : Hp w S [.blk d [.chan (some a0.ch), .chan (some a1.ch), .chan (some a2.ch), .int .i64 (a0.p : Int), .int .i64 0, .int .i64 (a2.p : Int), .bool cl] 52, .obj a0.ch (chO room a0.l cl a0.s a0.r), .obj a1.ch (chO room a1.l cl a1.s a1.r), .obj a2.ch (chO room a2.l cl a2.s a2.r), .bag Gg] w82 := H84
        refine GL.semU (j := 6) r83 [0, 3, 9, 10] [(0, pt d 0), (3, .int .i64 0), (9, .agg #[.chan (some a0.ch), .chan (some a1.ch), .chan (some a2.ch)]), (10, .int .i64 1)] (by kernel_rfl) rfl rfl rfl ?_
        refine GL.k rfl hK81 (fun _ _ h => h) ?_
        refine G.exitK hK32 (fun _ _ h => h) ?_
        refine G.region ?_
        refine GL.run (j := 2) 2 [0, 3, 9, 10] [(0, pt d 0), (3, .int .i64 0), (9, .agg #[.chan (some a0.ch), .chan (some a1.ch), .chan (some a2.ch)]), (10, .int .i64 2)] (by kernel_rfl) rfl ?_
        refine GL.round rfl ?_
        refine G.seqK fun K85 hK86 => ?_
        refine G.region ?_
        refine GL.run (j := 1) 1 [0, 3, 9, 10, 11] [(0, pt d 0), (3, .int .i64 0), (9, .agg #[.chan (some a0.ch), .chan (some a1.ch), .chan (some a2.ch)]), (10, .int .i64 2), (11, .bool true)] (by kernel_rfl) rfl ?_
        refine GL.k rfl hK86 (fun _ _ h => h) ?_
        refine G.seqK fun K87 hK88 => ?_
        refine G.yes rfl ?_
        refine G.skipK hK88 (fun _ _ h => h) ?_
        refine G.seqK fun K89 hK90 => ?_
        refine G.block ?_
        refine G.seqK fun K91 hK92 => ?_
        refine G.region ?_
        refine GL.run (j := 4) 4 [0, 3, 4, 5, 9, 10] [(0, pt d 0), (3, .int .i64 0), (4, .int .i64 2), (5, .chan (some a2.ch)), (9, .agg #[.chan (some a0.ch), .chan (some a1.ch), .chan (some a2.ch)]), (10, .int .i64 2)] (by kernel_rfl) rfl ?_
        refine GL.k rfl hK92 (fun _ _ h => h) ?_
        refine G.block ?_
        refine G.seqK fun K93 hK94 => ?_
        refine G.region ?_
        refine GL.run (j := 1) 1 [0, 3, 4, 9, 10, 15] [(0, pt d 0), (3, .int .i64 0), (4, .int .i64 2), (9, .agg #[.chan (some a0.ch), .chan (some a1.ch), .chan (some a2.ch)]), (10, .int .i64 2), (15, .chan (some a2.ch))] (by kernel_rfl) rfl ?_
        refine GL.sem (j := 2) (H84.lenChan (P := Try.prog) (t := 49) (ty := 3) (l := a2.l) 3 rfl Try.underlying49) [0, 3, 4, 9, 10, 16] [(0, pt d 0), (3, .int .i64 0), (4, .int .i64 2), (9, .agg #[.chan (some a0.ch), .chan (some a1.ch), .chan (some a2.ch)]), (10, .int .i64 2), (16, .int .i64 (a2.l.length : Int))] (by kernel_rfl) (by kernel_rfl) rfl ?_
        refine GL.run (j := 4) 2 [0, 3, 4, 9, 10, 14] [(0, pt d 0), (3, .int .i64 0), (4, .int .i64 2), (9, .agg #[.chan (some a0.ch), .chan (some a1.ch), .chan (some a2.ch)]), (10, .int .i64 2), (14, .bool ((a2.l.length : Int) == 0))] (by kernel_rfl) rfl ?_
        refine GL.k rfl hK94 (fun _ _ h => h) ?_
        cases hb95 : ((a2.l.length : Int) == 0)
        · skip
          have hb95f := ne_of_beq_false hb95
          refine G.no rfl ?_
          refine G.seqK fun K96 hK97 => ?_
          refine G.region ?_
          refine GL.run (j := 5) 5 [0, 3, 4, 9, 10, 28] [(0, pt d 0), (3, .int .i64 0), (4, .int .i64 2), (9, .agg #[.chan (some a0.ch), .chan (some a1.ch), .chan (some a2.ch)]), (10, .int .i64 2), (28, pt d 5)] (by kernel_rfl) rfl ?_
          refine GL.sem (j := 6) (H84.ld (o := 5) (ty := 3) (v := .int .i64 (a2.p : Int)) 0 rfl (by kernel_rfl) rfl) [0, 3, 4, 9, 10, 29] [(0, pt d 0), (3, .int .i64 0), (4, .int .i64 2), (9, .agg #[.chan (some a0.ch), .chan (some a1.ch), .chan (some a2.ch)]), (10, .int .i64 2), (29, .int .i64 (a2.p : Int))] (by kernel_rfl) (by kernel_rfl) rfl ?_
          refine GL.run (j := 8) 2 [0, 3, 4, 9, 10, 23] [(0, pt d 0), (3, .int .i64 0), (4, .int .i64 2), (9, .agg #[.chan (some a0.ch), .chan (some a1.ch), .chan (some a2.ch)]), (10, .int .i64 2), (23, .bool (decide (4 ≤ (a2.p : Int))))] (by kernel_rfl) rfl ?_
          refine GL.k rfl hK97 (fun _ _ h => h) ?_
          cases hb98 : (decide (4 ≤ (a2.p : Int)))
          · skip
            have hb98f := of_decide_eq_false hb98
            refine G.no rfl ?_
            refine G.seqK fun K99 hK100 => ?_
            refine G.region ?_
            refine GL.run (j := 3) 3 [0, 3, 4, 9, 10, 32] [(0, pt d 0), (3, .int .i64 0), (4, .int .i64 2), (9, .agg #[.chan (some a0.ch), .chan (some a1.ch), .chan (some a2.ch)]), (10, .int .i64 2), (32, .bool false)] (by kernel_rfl) rfl ?_
            refine GL.k rfl hK100 (fun _ _ h => h) ?_
            refine G.no rfl ?_
            refine G.skipK hK90 (fun _ _ h => h) ?_
            refine G.region ?_
            refine GL.run (j := 2) 2 [0, 3, 9, 10] [(0, pt d 0), (3, .int .i64 0), (9, .agg #[.chan (some a0.ch), .chan (some a1.ch), .chan (some a2.ch)]), (10, .int .i64 3)] (by kernel_rfl) rfl ?_
            refine GL.round rfl ?_
            refine G.seqK fun K101 hK102 => ?_
            refine G.region ?_
            refine GL.run (j := 1) 1 [0, 3, 9, 10, 11] [(0, pt d 0), (3, .int .i64 0), (9, .agg #[.chan (some a0.ch), .chan (some a1.ch), .chan (some a2.ch)]), (10, .int .i64 3), (11, .bool false)] (by kernel_rfl) rfl ?_
            refine GL.k rfl hK102 (fun _ _ h => h) ?_
            refine G.seqK fun K103 hK104 => ?_
            refine G.no rfl ?_
            refine G.exitK hK8 (fun _ _ h => h) ?_
            refine G.seqK fun K105 hK106 => ?_
            refine G.region ?_
            refine GL.run (j := 2) 2 [2] [(2, .int .i64 0)] (by kernel_rfl) rfl ?_
            refine GL.k rfl hK106 (fun _ _ h => h) ?_
            refine G.ret ?_
            intro F_ hF_ hM_
            refine hRet _ _ (bodyPost_1 rfl (RV.tmp rfl) ?_ F_ hF_ hM_)
            have e0 : tkN a0 a1 a2 = 0 := by
              unfold tkN
              repeat' split
              all_goals omega
            rw [show tkI a0 a1 a2 = 0 by unfold tkI; rw [e0]; rfl]
            have HZ : Hp w S [.blk d [.chan (some a0.ch), .chan (some a1.ch), .chan (some a2.ch), .int .i64 (a0.p : Int), .int .i64 (a1.p : Int), .int .i64 (a2.p : Int), .bool cl] 52, .obj a0.ch (chO room a0.l cl a0.s a0.r), .obj a1.ch (chO room a1.l cl a1.s a1.r), .obj a2.ch (chO room a2.l cl a2.s a2.r), .bag Gg] w82 := by rw [show a1.p = 0 from hz1.1 (by omega)]; exact H84
            exact ⟨rfl, HZ⟩
          · skip
            have hb98f := of_decide_eq_true hb98
            refine G.yes rfl ?_
            refine G.seqK fun K107 hK108 => ?_
            refine G.region ?_
            refine GL.run (j := 2) 2 [2] [(2, .int .i64 2)] (by kernel_rfl) rfl ?_
            refine GL.k rfl hK108 (fun _ _ h => h) ?_
            refine G.ret ?_
            intro F_ hF_ hM_
            refine hRet _ _ (bodyPost_1 rfl (RV.tmp rfl) ?_ F_ hF_ hM_)
            have e0 : tkN a0 a1 a2 = 2 := by
              unfold tkN
              repeat' split
              all_goals omega
            rw [show tkI a0 a1 a2 = 2 by unfold tkI; rw [e0]; rfl]
            have HZ : Hp w S [.blk d [.chan (some a0.ch), .chan (some a1.ch), .chan (some a2.ch), .int .i64 (a0.p : Int), .int .i64 (a1.p : Int), .int .i64 (a2.p : Int), .bool cl] 52, .obj a0.ch (chO room a0.l cl a0.s a0.r), .obj a1.ch (chO room a1.l cl a1.s a1.r), .obj a2.ch (chO room a2.l cl a2.s a2.r), .bag Gg] w82 := by rw [show a1.p = 0 from hz1.1 (by omega)]; exact H84
            exact ⟨rfl, HZ⟩
        · skip
          have hb95f := eq_of_beq hb95
          refine G.yes rfl ?_
          refine G.seqK fun K109 hK110 => ?_
          refine G.region ?_
          refine GL.run (j := 5) 5 [0, 3, 9, 10, 22] [(0, pt d 0), (3, .int .i64 0), (9, .agg #[.chan (some a0.ch), .chan (some a1.ch), .chan (some a2.ch)]), (10, .int .i64 2), (22, pt d 5)] (by kernel_rfl) rfl ?_
          obtain ⟨w111, r112, H113⟩ := H84.st (P := Try.prog) (o := 5) (ty := 3) (v := .int .i64 0) 0 rfl (by kernel_rfl) (by simp) rfl
          have H113 : Hp w S [.blk d [.chan (some a0.ch), .chan (some a1.ch), .chan (some a2.ch), .int .i64 (a0.p : Int), .int .i64 0, .int .i64 0, .bool cl] 52, .obj a0.ch (chO room a0.l cl a0.s a0.r), .obj a1.ch (chO room a1.l cl a1.s a1.r), .obj a2.ch (chO room a2.l cl a2.s a2.r), .bag Gg] w111 := H113
          refine GL.semU (j := 6) r112 [0, 3, 9, 10] [(0, pt d 0), (3, .int .i64 0), (9, .agg #[.chan (some a0.ch), .chan (some a1.ch), .chan (some a2.ch)]), (10, .int .i64 2)] (by kernel_rfl) rfl rfl rfl ?_
          refine GL.k rfl hK110 (fun _ _ h => h) ?_
          refine G.exitK hK90 (fun _ _ h => h) ?_
          refine G.region ?_
          refine GL.run (j := 2) 2 [0, 3, 9, 10] [(0, pt d 0), (3, .int .i64 0), (9, .agg #[.chan (some a0.ch), .chan (some a1.ch), .chan (some a2.ch)]), (10, .int .i64 3)] (by kernel_rfl) rfl ?_
          refine GL.round rfl ?_
          refine G.seqK fun K114 hK115 => ?_
          refine G.region ?_
          refine GL.run (j := 1) 1 [0, 3, 9, 10, 11] [(0, pt d 0), (3, .int .i64 0), (9, .agg #[.chan (some a0.ch), .chan (some a1.ch), .chan (some a2.ch)]), (10, .int .i64 3), (11, .bool false)] (by kernel_rfl) rfl ?_
          refine GL.k rfl hK115 (fun _ _ h => h) ?_
          refine G.seqK fun K116 hK117 => ?_
          refine G.no rfl ?_
          refine G.exitK hK8 (fun _ _ h => h) ?_
          refine G.seqK fun K118 hK119 => ?_
          refine G.region ?_
          refine GL.run (j := 2) 2 [2] [(2, .int .i64 0)] (by kernel_rfl) rfl ?_
          refine GL.k rfl hK119 (fun _ _ h => h) ?_
          refine G.ret ?_
          intro F_ hF_ hM_
          refine hRet _ _ (bodyPost_1 rfl (RV.tmp rfl) ?_ F_ hF_ hM_)
          have e0 : tkN a0 a1 a2 = 0 := by
            unfold tkN
            repeat' split
            all_goals omega
          rw [show tkI a0 a1 a2 = 0 by unfold tkI; rw [e0]; rfl]
          have HZ : Hp w S [.blk d [.chan (some a0.ch), .chan (some a1.ch), .chan (some a2.ch), .int .i64 (a0.p : Int), .int .i64 (a1.p : Int), .int .i64 (a2.p : Int), .bool cl] 52, .obj a0.ch (chO room a0.l cl a0.s a0.r), .obj a1.ch (chO room a1.l cl a1.s a1.r), .obj a2.ch (chO room a2.l cl a2.s a2.r), .bag Gg] w111 := by rw [show a1.p = 0 from hz1.1 (by omega), show a2.p = 0 from hz2.1 (by omega)]; exact H113
          exact ⟨rfl, HZ⟩
    · skip
      have hb24f := of_decide_eq_true hb24
      refine G.yes rfl ?_
      refine G.seqK fun K120 hK121 => ?_
      refine G.region ?_
      refine GL.run (j := 2) 2 [2] [(2, .int .i64 0)] (by kernel_rfl) rfl ?_
      refine GL.k rfl hK121 (fun _ _ h => h) ?_
      refine G.ret ?_
      intro F_ hF_ hM_
      refine hRet _ _ (bodyPost_1 rfl (RV.tmp rfl) ?_ F_ hF_ hM_)
      have e0 : tkN a0 a1 a2 = 0 := by
        unfold tkN
        repeat' split
        all_goals omega
      rw [show tkI a0 a1 a2 = 0 by unfold tkI; rw [e0]; rfl]
      exact ⟨rfl, H⟩
  · skip
    have hb21f := eq_of_beq hb21
    refine G.yes rfl ?_
    refine G.seqK fun K122 hK123 => ?_
    refine G.region ?_
    refine GL.run (j := 5) 5 [0, 3, 9, 10, 22] [(0, pt d 0), (3, .int .i64 (-1)), (9, .agg #[.chan (some a0.ch), .chan (some a1.ch), .chan (some a2.ch)]), (10, .int .i64 0), (22, pt d 3)] (by kernel_rfl) rfl ?_
    obtain ⟨w124, r125, H126⟩ := H.st (P := Try.prog) (o := 3) (ty := 3) (v := .int .i64 0) 0 rfl (by kernel_rfl) (by simp) rfl
    have H126 : Hp w S [.blk d [.chan (some a0.ch), .chan (some a1.ch), .chan (some a2.ch), .int .i64 0, .int .i64 (a1.p : Int), .int .i64 (a2.p : Int), .bool cl] 52, .obj a0.ch (chO room a0.l cl a0.s a0.r), .obj a1.ch (chO room a1.l cl a1.s a1.r), .obj a2.ch (chO room a2.l cl a2.s a2.r), .bag Gg] w124 := H126
    refine GL.semU (j := 6) r125 [0, 3, 9, 10] [(0, pt d 0), (3, .int .i64 (-1)), (9, .agg #[.chan (some a0.ch), .chan (some a1.ch), .chan (some a2.ch)]), (10, .int .i64 0)] (by kernel_rfl) rfl rfl rfl ?_
    refine GL.k rfl hK123 (fun _ _ h => h) ?_
    refine G.exitK hK16 (fun _ _ h => h) ?_
    refine G.region ?_
    refine GL.run (j := 2) 2 [0, 3, 9, 10] [(0, pt d 0), (3, .int .i64 (-1)), (9, .agg #[.chan (some a0.ch), .chan (some a1.ch), .chan (some a2.ch)]), (10, .int .i64 1)] (by kernel_rfl) rfl ?_
    refine GL.round rfl ?_
    refine G.seqK fun K127 hK128 => ?_
    refine G.region ?_
    refine GL.run (j := 1) 1 [0, 3, 9, 10, 11] [(0, pt d 0), (3, .int .i64 (-1)), (9, .agg #[.chan (some a0.ch), .chan (some a1.ch), .chan (some a2.ch)]), (10, .int .i64 1), (11, .bool true)] (by kernel_rfl) rfl ?_
    refine GL.k rfl hK128 (fun _ _ h => h) ?_
    refine G.seqK fun K129 hK130 => ?_
    refine G.yes rfl ?_
    refine G.skipK hK130 (fun _ _ h => h) ?_
    refine G.seqK fun K131 hK132 => ?_
    refine G.block ?_
    refine G.seqK fun K133 hK134 => ?_
    refine G.region ?_
    refine GL.run (j := 4) 4 [0, 3, 4, 5, 9, 10] [(0, pt d 0), (3, .int .i64 (-1)), (4, .int .i64 1), (5, .chan (some a1.ch)), (9, .agg #[.chan (some a0.ch), .chan (some a1.ch), .chan (some a2.ch)]), (10, .int .i64 1)] (by kernel_rfl) rfl ?_
    refine GL.k rfl hK134 (fun _ _ h => h) ?_
    refine G.block ?_
    refine G.seqK fun K135 hK136 => ?_
    refine G.region ?_
    refine GL.run (j := 1) 1 [0, 3, 4, 9, 10, 15] [(0, pt d 0), (3, .int .i64 (-1)), (4, .int .i64 1), (9, .agg #[.chan (some a0.ch), .chan (some a1.ch), .chan (some a2.ch)]), (10, .int .i64 1), (15, .chan (some a1.ch))] (by kernel_rfl) rfl ?_
    refine GL.sem (j := 2) (H126.lenChan (P := Try.prog) (t := 49) (ty := 3) (l := a1.l) 2 rfl Try.underlying49) [0, 3, 4, 9, 10, 16] [(0, pt d 0), (3, .int .i64 (-1)), (4, .int .i64 1), (9, .agg #[.chan (some a0.ch), .chan (some a1.ch), .chan (some a2.ch)]), (10, .int .i64 1), (16, .int .i64 (a1.l.length : Int))] (by kernel_rfl) (by kernel_rfl) rfl ?_
    refine GL.run (j := 4) 2 [0, 3, 4, 9, 10, 14] [(0, pt d 0), (3, .int .i64 (-1)), (4, .int .i64 1), (9, .agg #[.chan (some a0.ch), .chan (some a1.ch), .chan (some a2.ch)]), (10, .int .i64 1), (14, .bool ((a1.l.length : Int) == 0))] (by kernel_rfl) rfl ?_
    refine GL.k rfl hK136 (fun _ _ h => h) ?_
    cases hb137 : ((a1.l.length : Int) == 0)
    · skip
      have hb137f := ne_of_beq_false hb137
      refine G.no rfl ?_
      refine G.seqK fun K138 hK139 => ?_
      refine G.region ?_
      refine GL.run (j := 5) 5 [0, 3, 4, 9, 10, 28] [(0, pt d 0), (3, .int .i64 (-1)), (4, .int .i64 1), (9, .agg #[.chan (some a0.ch), .chan (some a1.ch), .chan (some a2.ch)]), (10, .int .i64 1), (28, pt d 4)] (by kernel_rfl) rfl ?_
      refine GL.sem (j := 6) (H126.ld (o := 4) (ty := 3) (v := .int .i64 (a1.p : Int)) 0 rfl (by kernel_rfl) rfl) [0, 3, 4, 9, 10, 29] [(0, pt d 0), (3, .int .i64 (-1)), (4, .int .i64 1), (9, .agg #[.chan (some a0.ch), .chan (some a1.ch), .chan (some a2.ch)]), (10, .int .i64 1), (29, .int .i64 (a1.p : Int))] (by kernel_rfl) (by kernel_rfl) rfl ?_
      refine GL.run (j := 8) 2 [0, 3, 4, 9, 10, 23] [(0, pt d 0), (3, .int .i64 (-1)), (4, .int .i64 1), (9, .agg #[.chan (some a0.ch), .chan (some a1.ch), .chan (some a2.ch)]), (10, .int .i64 1), (23, .bool (decide (4 ≤ (a1.p : Int))))] (by kernel_rfl) rfl ?_
      refine GL.k rfl hK139 (fun _ _ h => h) ?_
      cases hb140 : (decide (4 ≤ (a1.p : Int)))
      · skip
        have hb140f := of_decide_eq_false hb140
        refine G.no rfl ?_
        refine G.seqK fun K141 hK142 => ?_
        refine G.region ?_
        refine GL.run (j := 3) 3 [0, 3, 4, 9, 10, 32] [(0, pt d 0), (3, .int .i64 (-1)), (4, .int .i64 1), (9, .agg #[.chan (some a0.ch), .chan (some a1.ch), .chan (some a2.ch)]), (10, .int .i64 1), (32, .bool true)] (by kernel_rfl) rfl ?_
        refine GL.k rfl hK142 (fun _ _ h => h) ?_
        refine G.yes rfl ?_
        refine G.region ?_
        refine GL.run (j := 2) 2 [0, 3, 9, 10] [(0, pt d 0), (3, .int .i64 1), (9, .agg #[.chan (some a0.ch), .chan (some a1.ch), .chan (some a2.ch)]), (10, .int .i64 1)] (by kernel_rfl) rfl ?_
        refine GL.k rfl hK132 (fun _ _ h => h) ?_
        refine G.region ?_
        refine GL.run (j := 2) 2 [0, 3, 9, 10] [(0, pt d 0), (3, .int .i64 1), (9, .agg #[.chan (some a0.ch), .chan (some a1.ch), .chan (some a2.ch)]), (10, .int .i64 2)] (by kernel_rfl) rfl ?_
        refine GL.round rfl ?_
        refine G.seqK fun K143 hK144 => ?_
        refine G.region ?_
        refine GL.run (j := 1) 1 [0, 3, 9, 10, 11] [(0, pt d 0), (3, .int .i64 1), (9, .agg #[.chan (some a0.ch), .chan (some a1.ch), .chan (some a2.ch)]), (10, .int .i64 2), (11, .bool true)] (by kernel_rfl) rfl ?_
        refine GL.k rfl hK144 (fun _ _ h => h) ?_
        refine G.seqK fun K145 hK146 => ?_
        refine G.yes rfl ?_
        refine G.skipK hK146 (fun _ _ h => h) ?_
        refine G.seqK fun K147 hK148 => ?_
        refine G.block ?_
        refine G.seqK fun K149 hK150 => ?_
        refine G.region ?_
        refine GL.run (j := 4) 4 [0, 3, 4, 5, 9, 10] [(0, pt d 0), (3, .int .i64 1), (4, .int .i64 2), (5, .chan (some a2.ch)), (9, .agg #[.chan (some a0.ch), .chan (some a1.ch), .chan (some a2.ch)]), (10, .int .i64 2)] (by kernel_rfl) rfl ?_
        refine GL.k rfl hK150 (fun _ _ h => h) ?_
        refine G.block ?_
        refine G.seqK fun K151 hK152 => ?_
        refine G.region ?_
        refine GL.run (j := 1) 1 [0, 3, 4, 9, 10, 15] [(0, pt d 0), (3, .int .i64 1), (4, .int .i64 2), (9, .agg #[.chan (some a0.ch), .chan (some a1.ch), .chan (some a2.ch)]), (10, .int .i64 2), (15, .chan (some a2.ch))] (by kernel_rfl) rfl ?_
        refine GL.sem (j := 2) (H126.lenChan (P := Try.prog) (t := 49) (ty := 3) (l := a2.l) 3 rfl Try.underlying49) [0, 3, 4, 9, 10, 16] [(0, pt d 0), (3, .int .i64 1), (4, .int .i64 2), (9, .agg #[.chan (some a0.ch), .chan (some a1.ch), .chan (some a2.ch)]), (10, .int .i64 2), (16, .int .i64 (a2.l.length : Int))] (by kernel_rfl) (by kernel_rfl) rfl ?_
        refine GL.run (j := 4) 2 [0, 3, 4, 9, 10, 14] [(0, pt d 0), (3, .int .i64 1), (4, .int .i64 2), (9, .agg #[.chan (some a0.ch), .chan (some a1.ch), .chan (some a2.ch)]), (10, .int .i64 2), (14, .bool ((a2.l.length : Int) == 0))] (by kernel_rfl) rfl ?_
        refine GL.k rfl hK152 (fun _ _ h => h) ?_
        cases hb153 : ((a2.l.length : Int) == 0)
        · skip
          have hb153f := ne_of_beq_false hb153
          refine G.no rfl ?_
          refine G.seqK fun K154 hK155 => ?_
          refine G.region ?_
          refine GL.run (j := 5) 5 [0, 3, 4, 9, 10, 28] [(0, pt d 0), (3, .int .i64 1), (4, .int .i64 2), (9, .agg #[.chan (some a0.ch), .chan (some a1.ch), .chan (some a2.ch)]), (10, .int .i64 2), (28, pt d 5)] (by kernel_rfl) rfl ?_
          refine GL.sem (j := 6) (H126.ld (o := 5) (ty := 3) (v := .int .i64 (a2.p : Int)) 0 rfl (by kernel_rfl) rfl) [0, 3, 4, 9, 10, 29] [(0, pt d 0), (3, .int .i64 1), (4, .int .i64 2), (9, .agg #[.chan (some a0.ch), .chan (some a1.ch), .chan (some a2.ch)]), (10, .int .i64 2), (29, .int .i64 (a2.p : Int))] (by kernel_rfl) (by kernel_rfl) rfl ?_
          refine GL.run (j := 8) 2 [0, 3, 4, 9, 10, 23] [(0, pt d 0), (3, .int .i64 1), (4, .int .i64 2), (9, .agg #[.chan (some a0.ch), .chan (some a1.ch), .chan (some a2.ch)]), (10, .int .i64 2), (23, .bool (decide (4 ≤ (a2.p : Int))))] (by kernel_rfl) rfl ?_
          refine GL.k rfl hK155 (fun _ _ h => h) ?_
          cases hb156 : (decide (4 ≤ (a2.p : Int)))
          · skip
            have hb156f := of_decide_eq_false hb156
            refine G.no rfl ?_
            refine G.seqK fun K157 hK158 => ?_
            refine G.region ?_
            refine GL.run (j := 3) 3 [0, 3, 4, 9, 10, 32] [(0, pt d 0), (3, .int .i64 1), (4, .int .i64 2), (9, .agg #[.chan (some a0.ch), .chan (some a1.ch), .chan (some a2.ch)]), (10, .int .i64 2), (32, .bool false)] (by kernel_rfl) rfl ?_
            refine GL.k rfl hK158 (fun _ _ h => h) ?_
            refine G.no rfl ?_
            refine G.skipK hK148 (fun _ _ h => h) ?_
            refine G.region ?_
            refine GL.run (j := 2) 2 [0, 3, 9, 10] [(0, pt d 0), (3, .int .i64 1), (9, .agg #[.chan (some a0.ch), .chan (some a1.ch), .chan (some a2.ch)]), (10, .int .i64 3)] (by kernel_rfl) rfl ?_
            refine GL.round rfl ?_
            refine G.seqK fun K159 hK160 => ?_
            refine G.region ?_
            refine GL.run (j := 1) 1 [0, 3, 9, 10, 11] [(0, pt d 0), (3, .int .i64 1), (9, .agg #[.chan (some a0.ch), .chan (some a1.ch), .chan (some a2.ch)]), (10, .int .i64 3), (11, .bool false)] (by kernel_rfl) rfl ?_
            refine GL.k rfl hK160 (fun _ _ h => h) ?_
            refine G.seqK fun K161 hK162 => ?_
            refine G.no rfl ?_
            refine G.exitK hK8 (fun _ _ h => h) ?_
            refine G.seqK fun K163 hK164 => ?_
            refine G.region ?_
            refine GL.run (j := 2) 2 [2] [(2, .int .i64 1)] (by kernel_rfl) rfl ?_
            refine GL.k rfl hK164 (fun _ _ h => h) ?_
            refine G.ret ?_
            intro F_ hF_ hM_
            refine hRet _ _ (bodyPost_1 rfl (RV.tmp rfl) ?_ F_ hF_ hM_)
            have e0 : tkN a0 a1 a2 = 1 := by
              unfold tkN
              repeat' split
              all_goals omega
            rw [show tkI a0 a1 a2 = 1 by unfold tkI; rw [e0]; rfl]
            have HZ : Hp w S [.blk d [.chan (some a0.ch), .chan (some a1.ch), .chan (some a2.ch), .int .i64 (a0.p : Int), .int .i64 (a1.p : Int), .int .i64 (a2.p : Int), .bool cl] 52, .obj a0.ch (chO room a0.l cl a0.s a0.r), .obj a1.ch (chO room a1.l cl a1.s a1.r), .obj a2.ch (chO room a2.l cl a2.s a2.r), .bag Gg] w124 := by rw [show a0.p = 0 from hz0.1 (by omega)]; exact H126
            exact ⟨rfl, HZ⟩
          · skip
            have hb156f := of_decide_eq_true hb156
            refine G.yes rfl ?_
            refine G.seqK fun K165 hK166 => ?_
            refine G.region ?_
            refine GL.run (j := 2) 2 [2] [(2, .int .i64 2)] (by kernel_rfl) rfl ?_
            refine GL.k rfl hK166 (fun _ _ h => h) ?_
            refine G.ret ?_
            intro F_ hF_ hM_
            refine hRet _ _ (bodyPost_1 rfl (RV.tmp rfl) ?_ F_ hF_ hM_)
            have e0 : tkN a0 a1 a2 = 2 := by
              unfold tkN
              repeat' split
              all_goals omega
            rw [show tkI a0 a1 a2 = 2 by unfold tkI; rw [e0]; rfl]
            have HZ : Hp w S [.blk d [.chan (some a0.ch), .chan (some a1.ch), .chan (some a2.ch), .int .i64 (a0.p : Int), .int .i64 (a1.p : Int), .int .i64 (a2.p : Int), .bool cl] 52, .obj a0.ch (chO room a0.l cl a0.s a0.r), .obj a1.ch (chO room a1.l cl a1.s a1.r), .obj a2.ch (chO room a2.l cl a2.s a2.r), .bag Gg] w124 := by rw [show a0.p = 0 from hz0.1 (by omega)]; exact H126
            exact ⟨rfl, HZ⟩
        · skip
          have hb153f := eq_of_beq hb153
          refine G.yes rfl ?_
          refine G.seqK fun K167 hK168 => ?_
          refine G.region ?_
          refine GL.run (j := 5) 5 [0, 3, 9, 10, 22] [(0, pt d 0), (3, .int .i64 1), (9, .agg #[.chan (some a0.ch), .chan (some a1.ch), .chan (some a2.ch)]), (10, .int .i64 2), (22, pt d 5)] (by kernel_rfl) rfl ?_
          obtain ⟨w169, r170, H171⟩ := H126.st (P := Try.prog) (o := 5) (ty := 3) (v := .int .i64 0) 0 rfl (by kernel_rfl) (by simp) rfl
          have H171 : Hp w S [.blk d [.chan (some a0.ch), .chan (some a1.ch), .chan (some a2.ch), .int .i64 0, .int .i64 (a1.p : Int), .int .i64 0, .bool cl] 52, .obj a0.ch (chO room a0.l cl a0.s a0.r), .obj a1.ch (chO room a1.l cl a1.s a1.r), .obj a2.ch (chO room a2.l cl a2.s a2.r), .bag Gg] w169 := H171
          refine GL.semU (j := 6) r170 [0, 3, 9, 10] [(0, pt d 0), (3, .int .i64 1), (9, .agg #[.chan (some a0.ch), .chan (some a1.ch), .chan (some a2.ch)]), (10, .int .i64 2)] (by kernel_rfl) rfl rfl rfl ?_
          refine GL.k rfl hK168 (fun _ _ h => h) ?_
          refine G.exitK hK148 (fun _ _ h => h) ?_
          refine G.region ?_
          refine GL.run (j := 2) 2 [0, 3, 9, 10] [(0, pt d 0), (3, .int .i64 1), (9, .agg #[.chan (some a0.ch), .chan (some a1.ch), .chan (some a2.ch)]), (10, .int .i64 3)] (by kernel_rfl) rfl ?_
          refine GL.round rfl ?_
          refine G.seqK fun K172 hK173 => ?_
          refine G.region ?_
          refine GL.run (j := 1) 1 [0, 3, 9, 10, 11] [(0, pt d 0), (3, .int .i64 1), (9, .agg #[.chan (some a0.ch), .chan (some a1.ch), .chan (some a2.ch)]), (10, .int .i64 3), (11, .bool false)] (by kernel_rfl) rfl ?_
          refine GL.k rfl hK173 (fun _ _ h => h) ?_
          refine G.seqK fun K174 hK175 => ?_
          refine G.no rfl ?_
          refine G.exitK hK8 (fun _ _ h => h) ?_
          refine G.seqK fun K176 hK177 => ?_
          refine G.region ?_
          refine GL.run (j := 2) 2 [2] [(2, .int .i64 1)] (by kernel_rfl) rfl ?_
          refine GL.k rfl hK177 (fun _ _ h => h) ?_
          refine G.ret ?_
          intro F_ hF_ hM_
          refine hRet _ _ (bodyPost_1 rfl (RV.tmp rfl) ?_ F_ hF_ hM_)
          have e0 : tkN a0 a1 a2 = 1 := by
            unfold tkN
            repeat' split
            all_goals omega
          rw [show tkI a0 a1 a2 = 1 by unfold tkI; rw [e0]; rfl]
          have HZ : Hp w S [.blk d [.chan (some a0.ch), .chan (some a1.ch), .chan (some a2.ch), .int .i64 (a0.p : Int), .int .i64 (a1.p : Int), .int .i64 (a2.p : Int), .bool cl] 52, .obj a0.ch (chO room a0.l cl a0.s a0.r), .obj a1.ch (chO room a1.l cl a1.s a1.r), .obj a2.ch (chO room a2.l cl a2.s a2.r), .bag Gg] w169 := by rw [show a0.p = 0 from hz0.1 (by omega), show a2.p = 0 from hz2.1 (by omega)]; exact H171
          exact ⟨rfl, HZ⟩
      · skip
        have hb140f := of_decide_eq_true hb140
        refine G.yes rfl ?_
        refine G.seqK fun K178 hK179 => ?_
        refine G.region ?_
        refine GL.run (j := 2) 2 [2] [(2, .int .i64 1)] (by kernel_rfl) rfl ?_
        refine GL.k rfl hK179 (fun _ _ h => h) ?_
        refine G.ret ?_
        intro F_ hF_ hM_
        refine hRet _ _ (bodyPost_1 rfl (RV.tmp rfl) ?_ F_ hF_ hM_)
        have e0 : tkN a0 a1 a2 = 1 := by
          unfold tkN
          repeat' split
          all_goals omega
        rw [show tkI a0 a1 a2 = 1 by unfold tkI; rw [e0]; rfl]
        have HZ : Hp w S [.blk d [.chan (some a0.ch), .chan (some a1.ch), .chan (some a2.ch), .int .i64 (a0.p : Int), .int .i64 (a1.p : Int), .int .i64 (a2.p : Int), .bool cl] 52, .obj a0.ch (chO room a0.l cl a0.s a0.r), .obj a1.ch (chO room a1.l cl a1.s a1.r), .obj a2.ch (chO room a2.l cl a2.s a2.r), .bag Gg] w124 := by rw [show a0.p = 0 from hz0.1 (by omega)]; exact H126
        exact ⟨rfl, HZ⟩
    · skip
      have hb137f := eq_of_beq hb137
      refine G.yes rfl ?_
      refine G.seqK fun K180 hK181 => ?_
      refine G.region ?_
      refine GL.run (j := 5) 5 [0, 3, 9, 10, 22] [(0, pt d 0), (3, .int .i64 (-1)), (9, .agg #[.chan (some a0.ch), .chan (some a1.ch), .chan (some a2.ch)]), (10, .int .i64 1), (22, pt d 4)] (by kernel_rfl) rfl ?_
      obtain ⟨w182, r183, H184⟩ := H126.st (P := Try.prog) (o := 4) (ty := 3) (v := .int .i64 0) 0 rfl (by kernel_rfl) (by simp) rfl
      have H184 : Hp w S [.blk d [.chan (some a0.ch), .chan (some a1.ch), .chan (some a2.ch), .int .i64 0, .int .i64 0, .int .i64 (a2.p : Int), .bool cl] 52, .obj a0.ch (chO room a0.l cl a0.s a0.r), .obj a1.ch (chO room a1.l cl a1.s a1.r), .obj a2.ch (chO room a2.l cl a2.s a2.r), .bag Gg] w182 := H184
      refine GL.semU (j := 6) r183 [0, 3, 9, 10] [(0, pt d 0), (3, .int .i64 (-1)), (9, .agg #[.chan (some a0.ch), .chan (some a1.ch), .chan (some a2.ch)]), (10, .int .i64 1)] (by kernel_rfl) rfl rfl rfl ?_
      refine GL.k rfl hK181 (fun _ _ h => h) ?_
      refine G.exitK hK132 (fun _ _ h => h) ?_
      refine G.region ?_
      refine GL.run (j := 2) 2 [0, 3, 9, 10] [(0, pt d 0), (3, .int .i64 (-1)), (9, .agg #[.chan (some a0.ch), .chan (some a1.ch), .chan (some a2.ch)]), (10, .int .i64 2)] (by kernel_rfl) rfl ?_
      refine GL.round rfl ?_
      refine G.seqK fun K185 hK186 => ?_
      refine G.region ?_
      refine GL.run (j := 1) 1 [0, 3, 9, 10, 11] [(0, pt d 0), (3, .int .i64 (-1)), (9, .agg #[.chan (some a0.ch), .chan (some a1.ch), .chan (some a2.ch)]), (10, .int .i64 2), (11, .bool true)] (by kernel_rfl) rfl ?_
      refine GL.k rfl hK186 (fun _ _ h => h) ?_
      refine G.seqK fun K187 hK188 => ?_
      refine G.yes rfl ?_
      refine G.skipK hK188 (fun _ _ h => h) ?_
      refine G.seqK fun K189 hK190 => ?_
      refine G.block ?_
      refine G.seqK fun K191 hK192 => ?_
      refine G.region ?_
      refine GL.run (j := 4) 4 [0, 3, 4, 5, 9, 10] [(0, pt d 0), (3, .int .i64 (-1)), (4, .int .i64 2), (5, .chan (some a2.ch)), (9, .agg #[.chan (some a0.ch), .chan (some a1.ch), .chan (some a2.ch)]), (10, .int .i64 2)] (by kernel_rfl) rfl ?_
      refine GL.k rfl hK192 (fun _ _ h => h) ?_
      refine G.block ?_
      refine G.seqK fun K193 hK194 => ?_
      refine G.region ?_
      refine GL.run (j := 1) 1 [0, 3, 4, 9, 10, 15] [(0, pt d 0), (3, .int .i64 (-1)), (4, .int .i64 2), (9, .agg #[.chan (some a0.ch), .chan (some a1.ch), .chan (some a2.ch)]), (10, .int .i64 2), (15, .chan (some a2.ch))] (by kernel_rfl) rfl ?_
      refine GL.sem (j := 2) (H184.lenChan (P := Try.prog) (t := 49) (ty := 3) (l := a2.l) 3 rfl Try.underlying49) [0, 3, 4, 9, 10, 16] [(0, pt d 0), (3, .int .i64 (-1)), (4, .int .i64 2), (9, .agg #[.chan (some a0.ch), .chan (some a1.ch), .chan (some a2.ch)]), (10, .int .i64 2), (16, .int .i64 (a2.l.length : Int))] (by kernel_rfl) (by kernel_rfl) rfl ?_
      refine GL.run (j := 4) 2 [0, 3, 4, 9, 10, 14] [(0, pt d 0), (3, .int .i64 (-1)), (4, .int .i64 2), (9, .agg #[.chan (some a0.ch), .chan (some a1.ch), .chan (some a2.ch)]), (10, .int .i64 2), (14, .bool ((a2.l.length : Int) == 0))] (by kernel_rfl) rfl ?_
      refine GL.k rfl hK194 (fun _ _ h => h) ?_
      cases hb195 : ((a2.l.length : Int) == 0)
      · skip
        have hb195f := ne_of_beq_false hb195
        refine G.no rfl ?_
        refine G.seqK fun K196 hK197 => ?_
        refine G.region ?_
        refine GL.run (j := 5) 5 [0, 3, 4, 9, 10, 28] [(0, pt d 0), (3, .int .i64 (-1)), (4, .int .i64 2), (9, .agg #[.chan (some a0.ch), .chan (some a1.ch), .chan (some a2.ch)]), (10, .int .i64 2), (28, pt d 5)] (by kernel_rfl) rfl ?_
        refine GL.sem (j := 6) (H184.ld (o := 5) (ty := 3) (v := .int .i64 (a2.p : Int)) 0 rfl (by kernel_rfl) rfl) [0, 3, 4, 9, 10, 29] [(0, pt d 0), (3, .int .i64 (-1)), (4, .int .i64 2), (9, .agg #[.chan (some a0.ch), .chan (some a1.ch), .chan (some a2.ch)]), (10, .int .i64 2), (29, .int .i64 (a2.p : Int))] (by kernel_rfl) (by kernel_rfl) rfl ?_
        refine GL.run (j := 8) 2 [0, 3, 4, 9, 10, 23] [(0, pt d 0), (3, .int .i64 (-1)), (4, .int .i64 2), (9, .agg #[.chan (some a0.ch), .chan (some a1.ch), .chan (some a2.ch)]), (10, .int .i64 2), (23, .bool (decide (4 ≤ (a2.p : Int))))] (by kernel_rfl) rfl ?_
        refine GL.k rfl hK197 (fun _ _ h => h) ?_
        cases hb198 : (decide (4 ≤ (a2.p : Int)))
        · skip
          have hb198f := of_decide_eq_false hb198
          refine G.no rfl ?_
          refine G.seqK fun K199 hK200 => ?_
          refine G.region ?_
          refine GL.run (j := 3) 3 [0, 3, 4, 9, 10, 32] [(0, pt d 0), (3, .int .i64 (-1)), (4, .int .i64 2), (9, .agg #[.chan (some a0.ch), .chan (some a1.ch), .chan (some a2.ch)]), (10, .int .i64 2), (32, .bool true)] (by kernel_rfl) rfl ?_
          refine GL.k rfl hK200 (fun _ _ h => h) ?_
          refine G.yes rfl ?_
          refine G.region ?_
          refine GL.run (j := 2) 2 [0, 3, 9, 10] [(0, pt d 0), (3, .int .i64 2), (9, .agg #[.chan (some a0.ch), .chan (some a1.ch), .chan (some a2.ch)]), (10, .int .i64 2)] (by kernel_rfl) rfl ?_
          refine GL.k rfl hK190 (fun _ _ h => h) ?_
          refine G.region ?_
          refine GL.run (j := 2) 2 [0, 3, 9, 10] [(0, pt d 0), (3, .int .i64 2), (9, .agg #[.chan (some a0.ch), .chan (some a1.ch), .chan (some a2.ch)]), (10, .int .i64 3)] (by kernel_rfl) rfl ?_
          refine GL.round rfl ?_
          refine G.seqK fun K201 hK202 => ?_
          refine G.region ?_
          refine GL.run (j := 1) 1 [0, 3, 9, 10, 11] [(0, pt d 0), (3, .int .i64 2), (9, .agg #[.chan (some a0.ch), .chan (some a1.ch), .chan (some a2.ch)]), (10, .int .i64 3), (11, .bool false)] (by kernel_rfl) rfl ?_
          refine GL.k rfl hK202 (fun _ _ h => h) ?_
          refine G.seqK fun K203 hK204 => ?_
          refine G.no rfl ?_
          refine G.exitK hK8 (fun _ _ h => h) ?_
          refine G.seqK fun K205 hK206 => ?_
          refine G.region ?_
          refine GL.run (j := 2) 2 [2] [(2, .int .i64 2)] (by kernel_rfl) rfl ?_
          refine GL.k rfl hK206 (fun _ _ h => h) ?_
          refine G.ret ?_
          intro F_ hF_ hM_
          refine hRet _ _ (bodyPost_1 rfl (RV.tmp rfl) ?_ F_ hF_ hM_)
          have e0 : tkN a0 a1 a2 = 2 := by
            unfold tkN
            repeat' split
            all_goals omega
          rw [show tkI a0 a1 a2 = 2 by unfold tkI; rw [e0]; rfl]
          have HZ : Hp w S [.blk d [.chan (some a0.ch), .chan (some a1.ch), .chan (some a2.ch), .int .i64 (a0.p : Int), .int .i64 (a1.p : Int), .int .i64 (a2.p : Int), .bool cl] 52, .obj a0.ch (chO room a0.l cl a0.s a0.r), .obj a1.ch (chO room a1.l cl a1.s a1.r), .obj a2.ch (chO room a2.l cl a2.s a2.r), .bag Gg] w182 := by rw [show a0.p = 0 from hz0.1 (by omega), show a1.p = 0 from hz1.1 (by omega)]; exact H184
          exact ⟨rfl, HZ⟩
        · skip
          have hb198f := of_decide_eq_true hb198
          refine G.yes rfl ?_
          refine G.seqK fun K207 hK208 => ?_
          refine G.region ?_
          refine GL.run (j := 2) 2 [2] [(2, .int .i64 2)] (by kernel_rfl) rfl ?_
          refine GL.k rfl hK208 (fun _ _ h => h) ?_
          refine G.ret ?_
          intro F_ hF_ hM_
          refine hRet _ _ (bodyPost_1 rfl (RV.tmp rfl) ?_ F_ hF_ hM_)
          have e0 : tkN a0 a1 a2 = 2 := by
            unfold tkN
            repeat' split
            all_goals omega
          rw [show tkI a0 a1 a2 = 2 by unfold tkI; rw [e0]; rfl]
          have HZ : Hp w S [.blk d [.chan (some a0.ch), .chan (some a1.ch), .chan (some a2.ch), .int .i64 (a0.p : Int), .int .i64 (a1.p : Int), .int .i64 (a2.p : Int), .bool cl] 52, .obj a0.ch (chO room a0.l cl a0.s a0.r), .obj a1.ch (chO room a1.l cl a1.s a1.r), .obj a2.ch (chO room a2.l cl a2.s a2.r), .bag Gg] w182 := by rw [show a0.p = 0 from hz0.1 (by omega), show a1.p = 0 from hz1.1 (by omega)]; exact H184
          exact ⟨rfl, HZ⟩
      · skip
        have hb195f := eq_of_beq hb195
        refine G.yes rfl ?_
        refine G.seqK fun K209 hK210 => ?_
        refine G.region ?_
        refine GL.run (j := 5) 5 [0, 3, 9, 10, 22] [(0, pt d 0), (3, .int .i64 (-1)), (9, .agg #[.chan (some a0.ch), .chan (some a1.ch), .chan (some a2.ch)]), (10, .int .i64 2), (22, pt d 5)] (by kernel_rfl) rfl ?_
        obtain ⟨w211, r212, H213⟩ := H184.st (P := Try.prog) (o := 5) (ty := 3) (v := .int .i64 0) 0 rfl (by kernel_rfl) (by simp) rfl
        have H213 : Hp w S [.blk d [.chan (some a0.ch), .chan (some a1.ch), .chan (some a2.ch), .int .i64 0, .int .i64 0, .int .i64 0, .bool cl] 52, .obj a0.ch (chO room a0.l cl a0.s a0.r), .obj a1.ch (chO room a1.l cl a1.s a1.r), .obj a2.ch (chO room a2.l cl a2.s a2.r), .bag Gg] w211 := H213
        refine GL.semU (j := 6) r212 [0, 3, 9, 10] [(0, pt d 0), (3, .int .i64 (-1)), (9, .agg #[.chan (some a0.ch), .chan (some a1.ch), .chan (some a2.ch)]), (10, .int .i64 2)] (by kernel_rfl) rfl rfl rfl ?_
        refine GL.k rfl hK210 (fun _ _ h => h) ?_
        refine G.exitK hK190 (fun _ _ h => h) ?_
        refine G.region ?_
        refine GL.run (j := 2) 2 [0, 3, 9, 10] [(0, pt d 0), (3, .int .i64 (-1)), (9, .agg #[.chan (some a0.ch), .chan (some a1.ch), .chan (some a2.ch)]), (10, .int .i64 3)] (by kernel_rfl) rfl ?_
        refine GL.round rfl ?_
        refine G.seqK fun K214 hK215 => ?_
        refine G.region ?_
        refine GL.run (j := 1) 1 [0, 3, 9, 10, 11] [(0, pt d 0), (3, .int .i64 (-1)), (9, .agg #[.chan (some a0.ch), .chan (some a1.ch), .chan (some a2.ch)]), (10, .int .i64 3), (11, .bool false)] (by kernel_rfl) rfl ?_
        refine GL.k rfl hK215 (fun _ _ h => h) ?_
        refine G.seqK fun K216 hK217 => ?_
        refine G.no rfl ?_
        refine G.exitK hK8 (fun _ _ h => h) ?_
        refine G.seqK fun K218 hK219 => ?_
        refine G.region ?_
        refine GL.run (j := 2) 2 [2] [(2, .int .i64 (-1))] (by kernel_rfl) rfl ?_
        refine GL.k rfl hK219 (fun _ _ h => h) ?_
        refine G.ret ?_
        intro F_ hF_ hM_
        refine hRet _ _ (bodyPost_1 rfl (RV.tmp rfl) ?_ F_ hF_ hM_)
        have e0 : tkN a0 a1 a2 = 3 := by
          unfold tkN
          repeat' split
          all_goals omega
        rw [show tkI a0 a1 a2 = -1 by unfold tkI; rw [e0]; rfl]
        have HZ : Hp w S [.blk d [.chan (some a0.ch), .chan (some a1.ch), .chan (some a2.ch), .int .i64 (a0.p : Int), .int .i64 (a1.p : Int), .int .i64 (a2.p : Int), .bool cl] 52, .obj a0.ch (chO room a0.l cl a0.s a0.r), .obj a1.ch (chO room a1.l cl a1.s a1.r), .obj a2.ch (chO room a2.l cl a2.s a2.r), .bag Gg] w211 := by rw [show a0.p = 0 from hz0.1 (by omega), show a1.p = 0 from hz1.1 (by omega), show a2.p = 0 from hz2.1 (by omega)]; exact H213
        exact ⟨rfl, HZ⟩
set_option maxHeartbeats 4000000 in
theorem Take0_calls (S : List Nat) (d room : Nat) (cl : Bool) (a0 a1 a2 : Lane) (Gg : List (Option Addr × Nat × Nat × TypeId × List Value)) (m_ : Msg) (t_ : List Msg) (w : World) (h0 : Hp w S [.blk d [.chan (some a0.ch), .chan (some a1.ch), .chan (some a2.ch), .int .i64 (a0.p : Int), .int .i64 (a1.p : Int), .int .i64 (a2.p : Int), .bool cl] 52, .obj a0.ch (chO room a0.l cl a0.s a0.r), .obj a1.ch (chO room a1.l cl a1.s a1.r), .obj a2.ch (chO room a2.l cl a2.s a2.r), .bag Gg] w) (hz0 : a0.z) (hz1 : a1.z) (hz2 : a2.z) (htk : tkN a0 a1 a2 = 0) (hlk : a0.l = m_ :: t_) : Calls Try.prog 9 #[pt d 0] w fun e w' => e = .returned (.tuple #[.slice m_.A m_.b.length m_.c, .int .i64 0, .bool true]) ∧ Hp w S [.blk d [.chan (some (a0.took t_).ch), .chan (some a1.pass.ch), .chan (some a2.pass.ch), .int .i64 (((a0.took t_).p : Nat) : Int), .int .i64 (a1.pass.p : Int), .int .i64 (a2.pass.p : Int), .bool cl] 52, .obj (a0.took t_).ch (chO room (a0.took t_).l cl (a0.took t_).s (a0.took t_).r), .obj a1.pass.ch (chO room a1.pass.l cl a1.pass.s a1.pass.r), .obj a2.pass.ch (chO room a2.pass.l cl a2.pass.s a2.pass.r), .bag Gg] w' := by
  have hzp0 := hz0.2
  have hzp1 := hz1.2
  have hzp2 := hz2.2
  refine calls_GN (args := [pt d 0]) Try.func9 rfl Try.ntmps9 rfl ?_
  intro Q0 hRet hNor hPan
  have H := h0
  have H : Hp w S [.blk d [.chan (some a0.ch), .chan (some a1.ch), .chan (some a2.ch), .int .i64 (a0.p : Int), .int .i64 (a1.p : Int), .int .i64 (a2.p : Int), .bool cl] 52, .obj a0.ch (chO room a0.l cl a0.s a0.r), .obj a1.ch (chO room a1.l cl a1.s a1.r), .obj a2.ch (chO room a2.l cl a2.s a2.r), .bag Gg] w := H
  refine GN.seqK fun K1 hK2 => ?_
  refine G.region ?_
  refine GL.run (j := 3) 3 [0] [(0, pt d 0)] (by kernel_rfl) rfl ?_
  refine GL.kN rfl hK2 (fun _ _ h => h) ?_
  refine GN.seqK fun K3 hK4 => ?_
  refine G.seqK fun K5 hK6 => ?_
  refine G.region ?_
  refine GL.run (j := 2) 2 [0, 10] [(0, pt d 0), (10, .bool false)] (by kernel_rfl) rfl ?_
  refine GL.k rfl hK6 (fun _ _ h => h) ?_
  refine G.no rfl ?_
  refine G.skipKN hK4 (fun _ _ h => h) ?_
  refine GN.seqK fun K7 hK8 => ?_
  refine G.region ?_
  refine GL.run (j := 1) 1 [0, 11] [(0, pt d 0), (11, pt d 0)] (by kernel_rfl) rfl ?_
  refine GL.call (j := 2) ((by have h_ := next_calls (ids [.blk d [.chan (some a0.ch), .chan (some a1.ch), .chan (some a2.ch), .int .i64 (a0.p : Int), .int .i64 (a1.p : Int), .int .i64 (a2.p : Int), .bool cl] 52, .obj a0.ch (chO room a0.l cl a0.s a0.r), .obj a1.ch (chO room a1.l cl a1.s a1.r), .obj a2.ch (chO room a2.l cl a2.s a2.r), .bag Gg]) d room cl a0 a1 a2 Gg w (Hp.startL (A := [.blk d [.chan (some a0.ch), .chan (some a1.ch), .chan (some a2.ch), .int .i64 (a0.p : Int), .int .i64 (a1.p : Int), .int .i64 (a2.p : Int), .bool cl] 52, .obj a0.ch (chO room a0.l cl a0.s a0.r), .obj a1.ch (chO room a1.l cl a1.s a1.r), .obj a2.ch (chO room a2.l cl a2.s a2.r), .bag Gg]) (B := []) H) hz0 hz1 hz2; rw [show tkI a0 a1 a2 = 0 by unfold tkI; rw [htk]; rfl] at h_; exact h_)) (by kernel_rfl) rfl (fun e_ w9 hR => ?_)
  obtain ⟨rfl, H11⟩ := hR
  have H10 : Hp w S [.blk d [.chan (some a0.ch), .chan (some a1.ch), .chan (some a2.ch), .int .i64 (a0.p : Int), .int .i64 (a1.p : Int), .int .i64 (a2.p : Int), .bool cl] 52, .obj a0.ch (chO room a0.l cl a0.s a0.r), .obj a1.ch (chO room a1.l cl a1.s a1.r), .obj a2.ch (chO room a2.l cl a2.s a2.r), .bag Gg] w9 := Hp.callL (A := [.blk d [.chan (some a0.ch), .chan (some a1.ch), .chan (some a2.ch), .int .i64 (a0.p : Int), .int .i64 (a1.p : Int), .int .i64 (a2.p : Int), .bool cl] 52, .obj a0.ch (chO room a0.l cl a0.s a0.r), .obj a1.ch (chO room a1.l cl a1.s a1.r), .obj a2.ch (chO room a2.l cl a2.s a2.r), .bag Gg]) (B := []) H H11
  refine ⟨_, rfl, [0, 12], [(0, pt d 0), (12, .int .i64 0)], by kernel_rfl, ?_⟩
  refine GL.run (j := 3) 1 [0, 5] [(0, pt d 0), (5, .int .i64 0)] (by kernel_rfl) rfl ?_
  refine GL.kN rfl hK8 (fun _ _ h => h) ?_
  refine GN.seqK fun K12 hK13 => ?_
  refine G.seqK fun K14 hK15 => ?_
  refine G.region ?_
  refine GL.run (j := 2) 2 [0, 5, 14] [(0, pt d 0), (5, .int .i64 0), (14, .bool false)] (by kernel_rfl) rfl ?_
  refine GL.k rfl hK15 (fun _ _ h => h) ?_
  refine G.no rfl ?_
  refine G.skipKN hK13 (fun _ _ h => h) ?_
  refine GN.seqK fun K16 hK17 => ?_
  refine G.seqK fun K18 hK19 => ?_
  refine G.region ?_
  refine GL.run (j := 3) 3 [0, 5, 17] [(0, pt d 0), (5, .int .i64 0), (17, pt d 0)] (by kernel_rfl) rfl ?_
  refine GL.sem (j := 4) (H10.ldA (o := 0) (ty := 50) (m := 3) (sub := [.chan (some a0.ch), .chan (some a1.ch), .chan (some a2.ch)]) 0 rfl (by kernel_rfl) rfl rfl) [0, 5, 18] [(0, pt d 0), (5, .int .i64 0), (18, .agg #[.chan (some a0.ch), .chan (some a1.ch), .chan (some a2.ch)])] (by kernel_rfl) (by kernel_rfl) rfl ?_
  refine GL.run (j := 5) 1 [0, 5, 18, 19] [(0, pt d 0), (5, .int .i64 0), (18, .agg #[.chan (some a0.ch), .chan (some a1.ch), .chan (some a2.ch)]), (19, .int .i64 0)] (by kernel_rfl) rfl ?_
  refine GL.k rfl hK19 (fun _ _ h => h) ?_
  refine G.block ?_
  refine G.unroll 3 ?_
  refine G.seqK fun K20 hK21 => ?_
  refine G.region ?_
  refine GL.run (j := 1) 1 [0, 5, 18, 19, 20] [(0, pt d 0), (5, .int .i64 0), (18, .agg #[.chan (some a0.ch), .chan (some a1.ch), .chan (some a2.ch)]), (19, .int .i64 0), (20, .bool true)] (by kernel_rfl) rfl ?_
  refine GL.k rfl hK21 (fun _ _ h => h) ?_
  refine G.seqK fun K22 hK23 => ?_
  refine G.yes rfl ?_
  refine G.skipK hK23 (fun _ _ h => h) ?_
  refine G.seqK fun K24 hK25 => ?_
  refine G.block ?_
  refine G.seqK fun K26 hK27 => ?_
  refine G.region ?_
  refine GL.run (j := 4) 4 [0, 5, 6, 7, 18, 19] [(0, pt d 0), (5, .int .i64 0), (6, .int .i64 0), (7, .chan (some a0.ch)), (18, .agg #[.chan (some a0.ch), .chan (some a1.ch), .chan (some a2.ch)]), (19, .int .i64 0)] (by kernel_rfl) rfl ?_
  refine GL.k rfl hK27 (fun _ _ h => h) ?_
  refine G.seqK fun K28 hK29 => ?_
  refine G.region ?_
  refine GL.run (j := 8) 8 [0, 5, 6, 18, 19, 30] [(0, pt d 0), (5, .int .i64 0), (6, .int .i64 0), (18, .agg #[.chan (some a0.ch), .chan (some a1.ch), .chan (some a2.ch)]), (19, .int .i64 0), (30, .bool false)] (by kernel_rfl) rfl ?_
  refine GL.k rfl hK29 (fun _ _ h => h) ?_
  refine G.no rfl ?_
  refine G.skipK hK25 (fun _ _ h => h) ?_
  refine G.region ?_
  refine GL.run (j := 2) 2 [0, 5, 18, 19] [(0, pt d 0), (5, .int .i64 0), (18, .agg #[.chan (some a0.ch), .chan (some a1.ch), .chan (some a2.ch)]), (19, .int .i64 1)] (by kernel_rfl) rfl ?_
  refine GL.round rfl ?_
  refine G.seqK fun K30 hK31 => ?_
  refine G.region ?_
  refine GL.run (j := 1) 1 [0, 5, 18, 19, 20] [(0, pt d 0), (5, .int .i64 0), (18, .agg #[.chan (some a0.ch), .chan (some a1.ch), .chan (some a2.ch)]), (19, .int .i64 1), (20, .bool true)] (by kernel_rfl) rfl ?_
  refine GL.k rfl hK31 (fun _ _ h => h) ?_
  refine G.seqK fun K32 hK33 => ?_
  refine G.yes rfl ?_
  refine G.skipK hK33 (fun _ _ h => h) ?_
  refine G.seqK fun K34 hK35 => ?_
  refine G.block ?_
  refine G.seqK fun K36 hK37 => ?_
  refine G.region ?_
  refine GL.run (j := 4) 4 [0, 5, 6, 7, 18, 19] [(0, pt d 0), (5, .int .i64 0), (6, .int .i64 1), (7, .chan (some a1.ch)), (18, .agg #[.chan (some a0.ch), .chan (some a1.ch), .chan (some a2.ch)]), (19, .int .i64 1)] (by kernel_rfl) rfl ?_
  refine GL.k rfl hK37 (fun _ _ h => h) ?_
  refine G.seqK fun K38 hK39 => ?_
  refine G.region ?_
  refine GL.run (j := 5) 5 [0, 5, 6, 18, 19, 26, 27] [(0, pt d 0), (5, .int .i64 0), (6, .int .i64 1), (18, .agg #[.chan (some a0.ch), .chan (some a1.ch), .chan (some a2.ch)]), (19, .int .i64 1), (26, .bool true), (27, .chan (some a1.ch))] (by kernel_rfl) rfl ?_
  refine GL.sem (j := 6) (H10.lenChan (P := Try.prog) (t := 49) (ty := 3) (l := a1.l) 2 rfl Try.underlying49) [0, 5, 6, 18, 19, 26, 28] [(0, pt d 0), (5, .int .i64 0), (6, .int .i64 1), (18, .agg #[.chan (some a0.ch), .chan (some a1.ch), .chan (some a2.ch)]), (19, .int .i64 1), (26, .bool true), (28, .int .i64 (a1.l.length : Int))] (by kernel_rfl) (by kernel_rfl) rfl ?_
  refine GL.run (j := 8) 2 [0, 5, 6, 18, 19, 30] [(0, pt d 0), (5, .int .i64 0), (6, .int .i64 1), (18, .agg #[.chan (some a0.ch), .chan (some a1.ch), .chan (some a2.ch)]), (19, .int .i64 1), (30, .bool (decide (0 < (a1.l.length : Int))))] (by kernel_rfl) rfl ?_
  refine GL.k rfl hK39 (fun _ _ h => h) ?_
  cases hb40 : (decide (0 < (a1.l.length : Int)))
  · skip
    have hb40f := of_decide_eq_false hb40
    refine G.no rfl ?_
    refine G.skipK hK35 (fun _ _ h => h) ?_
    refine G.region ?_
    refine GL.run (j := 2) 2 [0, 5, 18, 19] [(0, pt d 0), (5, .int .i64 0), (18, .agg #[.chan (some a0.ch), .chan (some a1.ch), .chan (some a2.ch)]), (19, .int .i64 2)] (by kernel_rfl) rfl ?_
    refine GL.round rfl ?_
    refine G.seqK fun K41 hK42 => ?_
    refine G.region ?_
    refine GL.run (j := 1) 1 [0, 5, 18, 19, 20] [(0, pt d 0), (5, .int .i64 0), (18, .agg #[.chan (some a0.ch), .chan (some a1.ch), .chan (some a2.ch)]), (19, .int .i64 2), (20, .bool true)] (by kernel_rfl) rfl ?_
    refine GL.k rfl hK42 (fun _ _ h => h) ?_
    refine G.seqK fun K43 hK44 => ?_
    refine G.yes rfl ?_
    refine G.skipK hK44 (fun _ _ h => h) ?_
    refine G.seqK fun K45 hK46 => ?_
    refine G.block ?_
    refine G.seqK fun K47 hK48 => ?_
    refine G.region ?_
    refine GL.run (j := 4) 4 [0, 5, 6, 7, 18, 19] [(0, pt d 0), (5, .int .i64 0), (6, .int .i64 2), (7, .chan (some a2.ch)), (18, .agg #[.chan (some a0.ch), .chan (some a1.ch), .chan (some a2.ch)]), (19, .int .i64 2)] (by kernel_rfl) rfl ?_
    refine GL.k rfl hK48 (fun _ _ h => h) ?_
    refine G.seqK fun K49 hK50 => ?_
    refine G.region ?_
    refine GL.run (j := 5) 5 [0, 5, 6, 18, 19, 26, 27] [(0, pt d 0), (5, .int .i64 0), (6, .int .i64 2), (18, .agg #[.chan (some a0.ch), .chan (some a1.ch), .chan (some a2.ch)]), (19, .int .i64 2), (26, .bool true), (27, .chan (some a2.ch))] (by kernel_rfl) rfl ?_
    refine GL.sem (j := 6) (H10.lenChan (P := Try.prog) (t := 49) (ty := 3) (l := a2.l) 3 rfl Try.underlying49) [0, 5, 6, 18, 19, 26, 28] [(0, pt d 0), (5, .int .i64 0), (6, .int .i64 2), (18, .agg #[.chan (some a0.ch), .chan (some a1.ch), .chan (some a2.ch)]), (19, .int .i64 2), (26, .bool true), (28, .int .i64 (a2.l.length : Int))] (by kernel_rfl) (by kernel_rfl) rfl ?_
    refine GL.run (j := 8) 2 [0, 5, 6, 18, 19, 30] [(0, pt d 0), (5, .int .i64 0), (6, .int .i64 2), (18, .agg #[.chan (some a0.ch), .chan (some a1.ch), .chan (some a2.ch)]), (19, .int .i64 2), (30, .bool (decide (0 < (a2.l.length : Int))))] (by kernel_rfl) rfl ?_
    refine GL.k rfl hK50 (fun _ _ h => h) ?_
    cases hb51 : (decide (0 < (a2.l.length : Int)))
    · skip
      have hb51f := of_decide_eq_false hb51
      refine G.no rfl ?_
      refine G.skipK hK46 (fun _ _ h => h) ?_
      refine G.region ?_
      refine GL.run (j := 2) 2 [0, 5, 18, 19] [(0, pt d 0), (5, .int .i64 0), (18, .agg #[.chan (some a0.ch), .chan (some a1.ch), .chan (some a2.ch)]), (19, .int .i64 3)] (by kernel_rfl) rfl ?_
      refine GL.round rfl ?_
      refine G.seqK fun K52 hK53 => ?_
      refine G.region ?_
      refine GL.run (j := 1) 1 [0, 5, 18, 19, 20] [(0, pt d 0), (5, .int .i64 0), (18, .agg #[.chan (some a0.ch), .chan (some a1.ch), .chan (some a2.ch)]), (19, .int .i64 3), (20, .bool false)] (by kernel_rfl) rfl ?_
      refine GL.k rfl hK53 (fun _ _ h => h) ?_
      refine G.seqK fun K54 hK55 => ?_
      refine G.no rfl ?_
      refine G.exitKN hK17 (fun _ _ h => h) ?_
      refine GN.seqK fun K56 hK57 => ?_
      refine G.region ?_
      refine GL.run (j := 5) 5 [0, 5, 46] [(0, pt d 0), (5, .int .i64 0), (46, pt d 3)] (by kernel_rfl) rfl ?_
      obtain ⟨w58, r59, H60⟩ := H10.st (P := Try.prog) (o := 3) (ty := 3) (v := .int .i64 0) 0 rfl (by kernel_rfl) (by simp) rfl
      have H60 : Hp w S [.blk d [.chan (some a0.ch), .chan (some a1.ch), .chan (some a2.ch), .int .i64 0, .int .i64 (a1.p : Int), .int .i64 (a2.p : Int), .bool cl] 52, .obj a0.ch (chO room a0.l cl a0.s a0.r), .obj a1.ch (chO room a1.l cl a1.s a1.r), .obj a2.ch (chO room a2.l cl a2.s a2.r), .bag Gg] w58 := H60
      refine GL.semU (j := 6) r59 [0, 5] [(0, pt d 0), (5, .int .i64 0)] (by kernel_rfl) rfl rfl rfl ?_
      refine GL.kN rfl hK57 (fun _ _ h => h) ?_
      refine GN.seqK fun K61 hK62 => ?_
      refine G.region ?_
      refine GL.run (j := 5) 5 [5, 51] [(5, .int .i64 0), (51, pt d 0)] (by kernel_rfl) rfl ?_
      refine GL.sem (j := 6) (H60.ld (o := 0) (ty := 49) (v := .chan (some a0.ch)) 0 rfl (by kernel_rfl) rfl) [5, 52] [(5, .int .i64 0), (52, .chan (some a0.ch))] (by kernel_rfl) (by kernel_rfl) rfl ?_
      refine GL.kN rfl hK62 (fun _ _ h => h) ?_
      refine GN.seqS fun K63 hK64 => ?_
      rw [hlk] at H60
      have H65 : Hp w S [.blk d [.chan (some a0.ch), .chan (some a1.ch), .chan (some a2.ch), .int .i64 0, .int .i64 (a1.p : Int), .int .i64 (a2.p : Int), .bool cl] 52, .obj a0.ch (chO room (m_ :: t_) cl a0.s a0.r), .obj a1.ch (chO room a1.l cl a1.s a1.r), .obj a2.ch (chO room a2.l cl a2.s a2.r), .bag Gg] w58 := H60
      refine GN.recvBuf (z := .slice none 0 0) H65 1 (l := t_) (m := m_) rfl rfl rfl rfl (zv _) (by kernel_rfl) [5, 53] [(5, .int .i64 0), (53, .tuple #[.int .i64 0, .bool true, .slice m_.A m_.b.length m_.c])] (by kernel_rfl) (fun w66 H67 => ?_)
      refine GL.run (j := 3) 2 [5, 53, 55] [(5, .int .i64 0), (53, .tuple #[.int .i64 0, .bool true, .slice m_.A m_.b.length m_.c]), (55, .bool true)] (by kernel_rfl) rfl ?_
      refine GL.k rfl hK64 (fun _ _ h => h) ?_
      refine G.block ?_
      refine G.yes rfl ?_
      refine G.seqK fun K68 hK69 => ?_
      refine G.region ?_
      refine GL.run (j := 2) 2 [5, 8] [(5, .int .i64 0), (8, .slice m_.A m_.b.length m_.c)] (by kernel_rfl) rfl ?_
      refine GL.k rfl hK69 (fun _ _ h => h) ?_
      refine G.seqK fun K70 hK71 => ?_
      refine G.region ?_
      refine GL.run (j := 5) 5 [2, 3, 4] [(2, .slice m_.A m_.b.length m_.c), (3, .int .i64 0), (4, .bool true)] (by kernel_rfl) rfl ?_
      refine GL.k rfl hK71 (fun _ _ h => h) ?_
      refine G.ret ?_
      intro F_ hF_ hM_
      refine hRet _ _ (bodyPost_3 rfl (RV.tmp rfl) (RV.tmp rfl) (RV.tmp rfl) ?_ F_ hF_ hM_)
      have HZ : Hp w S [.blk d [.chan (some (a0.took t_).ch), .chan (some a1.pass.ch), .chan (some a2.pass.ch), .int .i64 (((a0.took t_).p : Nat) : Int), .int .i64 (a1.pass.p : Int), .int .i64 (a2.pass.p : Int), .bool cl] 52, .obj (a0.took t_).ch (chO room (a0.took t_).l cl (a0.took t_).s (a0.took t_).r), .obj a1.pass.ch (chO room a1.pass.l cl a1.pass.s a1.pass.r), .obj a2.pass.ch (chO room a2.pass.l cl a2.pass.s a2.pass.r), .bag Gg] w66 := by rw [show a1.pass.p = a1.p by unfold Lane.pass; exact if_pos (by omega), show a2.pass.p = a2.p by unfold Lane.pass; exact if_pos (by omega)]; exact H67
      exact ⟨rfl, HZ⟩
    · skip
      have hb51f := of_decide_eq_true hb51
      refine G.yes rfl ?_
      refine G.tail 10 (by kernel_rfl) (by kernel_rfl) ?_
      have H72 := H10.drew
      generalize ({ w9 with drawn := w9.drawn + 1 } : World) = w73 at H72 ⊢
      refine GS.run (j := 5) 5 [0, 5, 18, 19, 31, 32, 35] [(0, pt d 0), (5, .int .i64 0), (18, .agg #[.chan (some a0.ch), .chan (some a1.ch), .chan (some a2.ch)]), (19, .int .i64 2), (31, pt d 0), (32, .int .i64 2), (35, pt d 5)] (by kernel_rfl) rfl rfl ?_
      refine GS.sem (j := 6) (H72.ld (o := 5) (ty := 3) (v := .int .i64 (a2.p : Int)) 0 rfl (by kernel_rfl) rfl) [0, 5, 18, 19, 31, 32, 36] [(0, pt d 0), (5, .int .i64 0), (18, .agg #[.chan (some a0.ch), .chan (some a1.ch), .chan (some a2.ch)]), (19, .int .i64 2), (31, pt d 0), (32, .int .i64 2), (36, .int .i64 (a2.p : Int))] (by kernel_rfl) (by kernel_rfl) rfl rfl ?_
      refine GS.run (j := 10) 4 [0, 5, 18, 19, 37, 40] [(0, pt d 0), (5, .int .i64 0), (18, .agg #[.chan (some a0.ch), .chan (some a1.ch), .chan (some a2.ch)]), (19, .int .i64 2), (37, .int .i64 (IntKind.i64.wrap ((a2.p : Int) + 1))), (40, pt d 5)] (by kernel_rfl) rfl rfl ?_
      have e74 : (IntKind.i64.wrap ((a2.p : Int) + 1)) = ((a2.p + 1 : Nat) : Int) := by rw [in_i64 (by omega)]; omega
      refine GS.eq (M' := [(0, pt d 0), (5, .int .i64 0), (18, .agg #[.chan (some a0.ch), .chan (some a1.ch), .chan (some a2.ch)]), (19, .int .i64 2), (37, .int .i64 ((a2.p + 1 : Nat) : Int)), (40, pt d 5)]) (by rw [e74]) ?_
      clear e74
      refine GS.tail rfl ?_
      obtain ⟨w75, r76, H77⟩ := H72.st (P := Try.prog) (o := 5) (ty := 3) (v := .int .i64 ((a2.p + 1 : Nat) : Int)) 0 rfl (by kernel_rfl) (by simp) rfl
      have H77 : Hp w S [.blk d [.chan (some a0.ch), .chan (some a1.ch), .chan (some a2.ch), .int .i64 (a0.p : Int), .int .i64 (a1.p : Int), .int .i64 ((a2.p + 1 : Nat) : Int), .bool cl] 52, .obj a0.ch (chO room a0.l cl a0.s a0.r), .obj a1.ch (chO room a1.l cl a1.s a1.r), .obj a2.ch (chO room a2.l cl a2.s a2.r), .bag Gg] w75 := H77
      refine GL.semU (j := 11) r76 [0, 5, 18, 19] [(0, pt d 0), (5, .int .i64 0), (18, .agg #[.chan (some a0.ch), .chan (some a1.ch), .chan (some a2.ch)]), (19, .int .i64 2)] (by kernel_rfl) rfl rfl rfl ?_
      refine GL.k rfl hK46 (fun _ _ h => h) ?_
      refine G.region ?_
      refine GL.run (j := 2) 2 [0, 5, 18, 19] [(0, pt d 0), (5, .int .i64 0), (18, .agg #[.chan (some a0.ch), .chan (some a1.ch), .chan (some a2.ch)]), (19, .int .i64 3)] (by kernel_rfl) rfl ?_
      refine GL.round rfl ?_
      refine G.seqK fun K78 hK79 => ?_
      refine G.region ?_
      refine GL.run (j := 1) 1 [0, 5, 18, 19, 20] [(0, pt d 0), (5, .int .i64 0), (18, .agg #[.chan (some a0.ch), .chan (some a1.ch), .chan (some a2.ch)]), (19, .int .i64 3), (20, .bool false)] (by kernel_rfl) rfl ?_
      refine GL.k rfl hK79 (fun _ _ h => h) ?_
      refine G.seqK fun K80 hK81 => ?_
      refine G.no rfl ?_
      refine G.exitKN hK17 (fun _ _ h => h) ?_
      refine GN.seqK fun K82 hK83 => ?_
      refine G.region ?_
      refine GL.run (j := 5) 5 [0, 5, 46] [(0, pt d 0), (5, .int .i64 0), (46, pt d 3)] (by kernel_rfl) rfl ?_
      obtain ⟨w84, r85, H86⟩ := H77.st (P := Try.prog) (o := 3) (ty := 3) (v := .int .i64 0) 0 rfl (by kernel_rfl) (by simp) rfl
      have H86 : Hp w S [.blk d [.chan (some a0.ch), .chan (some a1.ch), .chan (some a2.ch), .int .i64 0, .int .i64 (a1.p : Int), .int .i64 ((a2.p + 1 : Nat) : Int), .bool cl] 52, .obj a0.ch (chO room a0.l cl a0.s a0.r), .obj a1.ch (chO room a1.l cl a1.s a1.r), .obj a2.ch (chO room a2.l cl a2.s a2.r), .bag Gg] w84 := H86
      refine GL.semU (j := 6) r85 [0, 5] [(0, pt d 0), (5, .int .i64 0)] (by kernel_rfl) rfl rfl rfl ?_
      refine GL.kN rfl hK83 (fun _ _ h => h) ?_
      refine GN.seqK fun K87 hK88 => ?_
      refine G.region ?_
      refine GL.run (j := 5) 5 [5, 51] [(5, .int .i64 0), (51, pt d 0)] (by kernel_rfl) rfl ?_
      refine GL.sem (j := 6) (H86.ld (o := 0) (ty := 49) (v := .chan (some a0.ch)) 0 rfl (by kernel_rfl) rfl) [5, 52] [(5, .int .i64 0), (52, .chan (some a0.ch))] (by kernel_rfl) (by kernel_rfl) rfl ?_
      refine GL.kN rfl hK88 (fun _ _ h => h) ?_
      refine GN.seqS fun K89 hK90 => ?_
      rw [hlk] at H86
      have H91 : Hp w S [.blk d [.chan (some a0.ch), .chan (some a1.ch), .chan (some a2.ch), .int .i64 0, .int .i64 (a1.p : Int), .int .i64 ((a2.p + 1 : Nat) : Int), .bool cl] 52, .obj a0.ch (chO room (m_ :: t_) cl a0.s a0.r), .obj a1.ch (chO room a1.l cl a1.s a1.r), .obj a2.ch (chO room a2.l cl a2.s a2.r), .bag Gg] w84 := H86
      refine GN.recvBuf (z := .slice none 0 0) H91 1 (l := t_) (m := m_) rfl rfl rfl rfl (zv _) (by kernel_rfl) [5, 53] [(5, .int .i64 0), (53, .tuple #[.int .i64 0, .bool true, .slice m_.A m_.b.length m_.c])] (by kernel_rfl) (fun w92 H93 => ?_)
      refine GL.run (j := 3) 2 [5, 53, 55] [(5, .int .i64 0), (53, .tuple #[.int .i64 0, .bool true, .slice m_.A m_.b.length m_.c]), (55, .bool true)] (by kernel_rfl) rfl ?_
      refine GL.k rfl hK90 (fun _ _ h => h) ?_
      refine G.block ?_
      refine G.yes rfl ?_
      refine G.seqK fun K94 hK95 => ?_
      refine G.region ?_
      refine GL.run (j := 2) 2 [5, 8] [(5, .int .i64 0), (8, .slice m_.A m_.b.length m_.c)] (by kernel_rfl) rfl ?_
      refine GL.k rfl hK95 (fun _ _ h => h) ?_
      refine G.seqK fun K96 hK97 => ?_
      refine G.region ?_
      refine GL.run (j := 5) 5 [2, 3, 4] [(2, .slice m_.A m_.b.length m_.c), (3, .int .i64 0), (4, .bool true)] (by kernel_rfl) rfl ?_
      refine GL.k rfl hK97 (fun _ _ h => h) ?_
      refine G.ret ?_
      intro F_ hF_ hM_
      refine hRet _ _ (bodyPost_3 rfl (RV.tmp rfl) (RV.tmp rfl) (RV.tmp rfl) ?_ F_ hF_ hM_)
      have HZ : Hp w S [.blk d [.chan (some (a0.took t_).ch), .chan (some a1.pass.ch), .chan (some a2.pass.ch), .int .i64 (((a0.took t_).p : Nat) : Int), .int .i64 (a1.pass.p : Int), .int .i64 (a2.pass.p : Int), .bool cl] 52, .obj (a0.took t_).ch (chO room (a0.took t_).l cl (a0.took t_).s (a0.took t_).r), .obj a1.pass.ch (chO room a1.pass.l cl a1.pass.s a1.pass.r), .obj a2.pass.ch (chO room a2.pass.l cl a2.pass.s a2.pass.r), .bag Gg] w92 := by rw [show a1.pass.p = a1.p by unfold Lane.pass; exact if_pos (by omega), show a2.pass.p = a2.p + 1 by unfold Lane.pass; exact if_neg (by omega)]; exact H93
      exact ⟨rfl, HZ⟩
  · skip
    have hb40f := of_decide_eq_true hb40
    refine G.yes rfl ?_
    refine G.tail 10 (by kernel_rfl) (by kernel_rfl) ?_
    have H98 := H10.drew
    generalize ({ w9 with drawn := w9.drawn + 1 } : World) = w99 at H98 ⊢
    refine GS.run (j := 5) 5 [0, 5, 18, 19, 31, 32, 35] [(0, pt d 0), (5, .int .i64 0), (18, .agg #[.chan (some a0.ch), .chan (some a1.ch), .chan (some a2.ch)]), (19, .int .i64 1), (31, pt d 0), (32, .int .i64 1), (35, pt d 4)] (by kernel_rfl) rfl rfl ?_
    refine GS.sem (j := 6) (H98.ld (o := 4) (ty := 3) (v := .int .i64 (a1.p : Int)) 0 rfl (by kernel_rfl) rfl) [0, 5, 18, 19, 31, 32, 36] [(0, pt d 0), (5, .int .i64 0), (18, .agg #[.chan (some a0.ch), .chan (some a1.ch), .chan (some a2.ch)]), (19, .int .i64 1), (31, pt d 0), (32, .int .i64 1), (36, .int .i64 (a1.p : Int))] (by kernel_rfl) (by kernel_rfl) rfl rfl ?_
    refine GS.run (j := 10) 4 [0, 5, 18, 19, 37, 40] [(0, pt d 0), (5, .int .i64 0), (18, .agg #[.chan (some a0.ch), .chan (some a1.ch), .chan (some a2.ch)]), (19, .int .i64 1), (37, .int .i64 (IntKind.i64.wrap ((a1.p : Int) + 1))), (40, pt d 4)] (by kernel_rfl) rfl rfl ?_
    have e100 : (IntKind.i64.wrap ((a1.p : Int) + 1)) = ((a1.p + 1 : Nat) : Int) := by rw [in_i64 (by omega)]; omega
    refine GS.eq (M' := [(0, pt d 0), (5, .int .i64 0), (18, .agg #[.chan (some a0.ch), .chan (some a1.ch), .chan (some a2.ch)]), (19, .int .i64 1), (37, .int .i64 ((a1.p + 1 : Nat) : Int)), (40, pt d 4)]) (by rw [e100]) ?_
    clear e100
    refine GS.tail rfl ?_
    obtain ⟨w101, r102, H103⟩ := H98.st (P := Try.prog) (o := 4) (ty := 3) (v := .int .i64 ((a1.p + 1 : Nat) : Int)) 0 rfl (by kernel_rfl) (by simp) rfl
    have H103 : Hp w S [.blk d [.chan (some a0.ch), .chan (some a1.ch), .chan (some a2.ch), .int .i64 (a0.p : Int), .int .i64 ((a1.p + 1 : Nat) : Int), .int .i64 (a2.p : Int), .bool cl] 52, .obj a0.ch (chO room a0.l cl a0.s a0.r), .obj a1.ch (chO room a1.l cl a1.s a1.r), .obj a2.ch (chO room a2.l cl a2.s a2.r), .bag Gg] w101 := H103
    refine GL.semU (j := 11) r102 [0, 5, 18, 19] [(0, pt d 0), (5, .int .i64 0), (18, .agg #[.chan (some a0.ch), .chan (some a1.ch), .chan (some a2.ch)]), (19, .int .i64 1)] (by kernel_rfl) rfl rfl rfl ?_
    refine GL.k rfl hK35 (fun _ _ h => h) ?_
    refine G.region ?_
    refine GL.run (j := 2) 2 [0, 5, 18, 19] [(0, pt d 0), (5, .int .i64 0), (18, .agg #[.chan (some a0.ch), .chan (some a1.ch), .chan (some a2.ch)]), (19, .int .i64 2)] (by kernel_rfl) rfl ?_
    refine GL.round rfl ?_
    refine G.seqK fun K104 hK105 => ?_
    refine G.region ?_
    refine GL.run (j := 1) 1 [0, 5, 18, 19, 20] [(0, pt d 0), (5, .int .i64 0), (18, .agg #[.chan (some a0.ch), .chan (some a1.ch), .chan (some a2.ch)]), (19, .int .i64 2), (20, .bool true)] (by kernel_rfl) rfl ?_
    refine GL.k rfl hK105 (fun _ _ h => h) ?_
    refine G.seqK fun K106 hK107 => ?_
    refine G.yes rfl ?_
    refine G.skipK hK107 (fun _ _ h => h) ?_
    refine G.seqK fun K108 hK109 => ?_
    refine G.block ?_
    refine G.seqK fun K110 hK111 => ?_
    refine G.region ?_
    refine GL.run (j := 4) 4 [0, 5, 6, 7, 18, 19] [(0, pt d 0), (5, .int .i64 0), (6, .int .i64 2), (7, .chan (some a2.ch)), (18, .agg #[.chan (some a0.ch), .chan (some a1.ch), .chan (some a2.ch)]), (19, .int .i64 2)] (by kernel_rfl) rfl ?_
    refine GL.k rfl hK111 (fun _ _ h => h) ?_
    refine G.seqK fun K112 hK113 => ?_
    refine G.region ?_
    refine GL.run (j := 5) 5 [0, 5, 6, 18, 19, 26, 27] [(0, pt d 0), (5, .int .i64 0), (6, .int .i64 2), (18, .agg #[.chan (some a0.ch), .chan (some a1.ch), .chan (some a2.ch)]), (19, .int .i64 2), (26, .bool true), (27, .chan (some a2.ch))] (by kernel_rfl) rfl ?_
    refine GL.sem (j := 6) (H103.lenChan (P := Try.prog) (t := 49) (ty := 3) (l := a2.l) 3 rfl Try.underlying49) [0, 5, 6, 18, 19, 26, 28] [(0, pt d 0), (5, .int .i64 0), (6, .int .i64 2), (18, .agg #[.chan (some a0.ch), .chan (some a1.ch), .chan (some a2.ch)]), (19, .int .i64 2), (26, .bool true), (28, .int .i64 (a2.l.length : Int))] (by kernel_rfl) (by kernel_rfl) rfl ?_
    refine GL.run (j := 8) 2 [0, 5, 6, 18, 19, 30] [(0, pt d 0), (5, .int .i64 0), (6, .int .i64 2), (18, .agg #[.chan (some a0.ch), .chan (some a1.ch), .chan (some a2.ch)]), (19, .int .i64 2), (30, .bool (decide (0 < (a2.l.length : Int))))] (by kernel_rfl) rfl ?_
    refine GL.k rfl hK113 (fun _ _ h => h) ?_
    cases hb114 : (decide (0 < (a2.l.length : Int)))
    · skip
      have hb114f := of_decide_eq_false hb114
      refine G.no rfl ?_
      refine G.skipK hK109 (fun _ _ h => h) ?_
      refine G.region ?_
      refine GL.run (j := 2) 2 [0, 5, 18, 19] [(0, pt d 0), (5, .int .i64 0), (18, .agg #[.chan (some a0.ch), .chan (some a1.ch), .chan (some a2.ch)]), (19, .int .i64 3)] (by kernel_rfl) rfl ?_
      refine GL.round rfl ?_
      refine G.seqK fun K115 hK116 => ?_
      refine G.region ?_
      refine GL.run (j := 1) 1 [0, 5, 18, 19, 20] [(0, pt d 0), (5, .int .i64 0), (18, .agg #[.chan (some a0.ch), .chan (some a1.ch), .chan (some a2.ch)]), (19, .int .i64 3), (20, .bool false)] (by kernel_rfl) rfl ?_
      refine GL.k rfl hK116 (fun _ _ h => h) ?_
      refine G.seqK fun K117 hK118 => ?_
      refine G.no rfl ?_
      refine G.exitKN hK17 (fun _ _ h => h) ?_
      refine GN.seqK fun K119 hK120 => ?_
      refine G.region ?_
      refine GL.run (j := 5) 5 [0, 5, 46] [(0, pt d 0), (5, .int .i64 0), (46, pt d 3)] (by kernel_rfl) rfl ?_
      obtain ⟨w121, r122, H123⟩ := H103.st (P := Try.prog) (o := 3) (ty := 3) (v := .int .i64 0) 0 rfl (by kernel_rfl) (by simp) rfl
      have H123 : Hp w S [.blk d [.chan (some a0.ch), .chan (some a1.ch), .chan (some a2.ch), .int .i64 0, .int .i64 ((a1.p + 1 : Nat) : Int), .int .i64 (a2.p : Int), .bool cl] 52, .obj a0.ch (chO room a0.l cl a0.s a0.r), .obj a1.ch (chO room a1.l cl a1.s a1.r), .obj a2.ch (chO room a2.l cl a2.s a2.r), .bag Gg] w121 := H123
      refine GL.semU (j := 6) r122 [0, 5] [(0, pt d 0), (5, .int .i64 0)] (by kernel_rfl) rfl rfl rfl ?_
      refine GL.kN rfl hK120 (fun _ _ h => h) ?_
      refine GN.seqK fun K124 hK125 => ?_
      refine G.region ?_
      refine GL.run (j := 5) 5 [5, 51] [(5, .int .i64 0), (51, pt d 0)] (by kernel_rfl) rfl ?_
      refine GL.sem (j := 6) (H123.ld (o := 0) (ty := 49) (v := .chan (some a0.ch)) 0 rfl (by kernel_rfl) rfl) [5, 52] [(5, .int .i64 0), (52, .chan (some a0.ch))] (by kernel_rfl) (by kernel_rfl) rfl ?_
      refine GL.kN rfl hK125 (fun _ _ h => h) ?_
      refine GN.seqS fun K126 hK127 => ?_
      rw [hlk] at H123
      have H128 : Hp w S [.blk d [.chan (some a0.ch), .chan (some a1.ch), .chan (some a2.ch), .int .i64 0, .int .i64 ((a1.p + 1 : Nat) : Int), .int .i64 (a2.p : Int), .bool cl] 52, .obj a0.ch (chO room (m_ :: t_) cl a0.s a0.r), .obj a1.ch (chO room a1.l cl a1.s a1.r), .obj a2.ch (chO room a2.l cl a2.s a2.r), .bag Gg] w121 := H123
      refine GN.recvBuf (z := .slice none 0 0) H128 1 (l := t_) (m := m_) rfl rfl rfl rfl (zv _) (by kernel_rfl) [5, 53] [(5, .int .i64 0), (53, .tuple #[.int .i64 0, .bool true, .slice m_.A m_.b.length m_.c])] (by kernel_rfl) (fun w129 H130 => ?_)
      refine GL.run (j := 3) 2 [5, 53, 55] [(5, .int .i64 0), (53, .tuple #[.int .i64 0, .bool true, .slice m_.A m_.b.length m_.c]), (55, .bool true)] (by kernel_rfl) rfl ?_
      refine GL.k rfl hK127 (fun _ _ h => h) ?_
      refine G.block ?_
      refine G.yes rfl ?_
      refine G.seqK fun K131 hK132 => ?_
      refine G.region ?_
      refine GL.run (j := 2) 2 [5, 8] [(5, .int .i64 0), (8, .slice m_.A m_.b.length m_.c)] (by kernel_rfl) rfl ?_
      refine GL.k rfl hK132 (fun _ _ h => h) ?_
      refine G.seqK fun K133 hK134 => ?_
      refine G.region ?_
      refine GL.run (j := 5) 5 [2, 3, 4] [(2, .slice m_.A m_.b.length m_.c), (3, .int .i64 0), (4, .bool true)] (by kernel_rfl) rfl ?_
      refine GL.k rfl hK134 (fun _ _ h => h) ?_
      refine G.ret ?_
      intro F_ hF_ hM_
      refine hRet _ _ (bodyPost_3 rfl (RV.tmp rfl) (RV.tmp rfl) (RV.tmp rfl) ?_ F_ hF_ hM_)
      have HZ : Hp w S [.blk d [.chan (some (a0.took t_).ch), .chan (some a1.pass.ch), .chan (some a2.pass.ch), .int .i64 (((a0.took t_).p : Nat) : Int), .int .i64 (a1.pass.p : Int), .int .i64 (a2.pass.p : Int), .bool cl] 52, .obj (a0.took t_).ch (chO room (a0.took t_).l cl (a0.took t_).s (a0.took t_).r), .obj a1.pass.ch (chO room a1.pass.l cl a1.pass.s a1.pass.r), .obj a2.pass.ch (chO room a2.pass.l cl a2.pass.s a2.pass.r), .bag Gg] w129 := by rw [show a1.pass.p = a1.p + 1 by unfold Lane.pass; exact if_neg (by omega), show a2.pass.p = a2.p by unfold Lane.pass; exact if_pos (by omega)]; exact H130
      exact ⟨rfl, HZ⟩
    · skip
      have hb114f := of_decide_eq_true hb114
      refine G.yes rfl ?_
      refine G.tail 10 (by kernel_rfl) (by kernel_rfl) ?_
      have H135 := H103.drew
      generalize ({ w101 with drawn := w101.drawn + 1 } : World) = w136 at H135 ⊢
      refine GS.run (j := 5) 5 [0, 5, 18, 19, 31, 32, 35] [(0, pt d 0), (5, .int .i64 0), (18, .agg #[.chan (some a0.ch), .chan (some a1.ch), .chan (some a2.ch)]), (19, .int .i64 2), (31, pt d 0), (32, .int .i64 2), (35, pt d 5)] (by kernel_rfl) rfl rfl ?_
      refine GS.sem (j := 6) (H135.ld (o := 5) (ty := 3) (v := .int .i64 (a2.p : Int)) 0 rfl (by kernel_rfl) rfl) [0, 5, 18, 19, 31, 32, 36] [(0, pt d 0), (5, .int .i64 0), (18, .agg #[.chan (some a0.ch), .chan (some a1.ch), .chan (some a2.ch)]), (19, .int .i64 2), (31, pt d 0), (32, .int .i64 2), (36, .int .i64 (a2.p : Int))] (by kernel_rfl) (by kernel_rfl) rfl rfl ?_
      refine GS.run (j := 10) 4 [0, 5, 18, 19, 37, 40] [(0, pt d 0), (5, .int .i64 0), (18, .agg #[.chan (some a0.ch), .chan (some a1.ch), .chan (some a2.ch)]), (19, .int .i64 2), (37, .int .i64 (IntKind.i64.wrap ((a2.p : Int) + 1))), (40, pt d 5)] (by kernel_rfl) rfl rfl ?_
      have e137 : (IntKind.i64.wrap ((a2.p : Int) + 1)) = ((a2.p + 1 : Nat) : Int) := by rw [in_i64 (by omega)]; omega
      refine GS.eq (M' := [(0, pt d 0), (5, .int .i64 0), (18, .agg #[.chan (some a0.ch), .chan (some a1.ch), .chan (some a2.ch)]), (19, .int .i64 2), (37, .int .i64 ((a2.p + 1 : Nat) : Int)), (40, pt d 5)]) (by rw [e137]) ?_
      clear e137
      refine GS.tail rfl ?_
      obtain ⟨w138, r139, H140⟩ := H135.st (P := Try.prog) (o := 5) (ty := 3) (v := .int .i64 ((a2.p + 1 : Nat) : Int)) 0 rfl (by kernel_rfl) (by simp) rfl
      have H140 : Hp w S [.blk d [.chan (some a0.ch), .chan (some a1.ch), .chan (some a2.ch), .int .i64 (a0.p : Int), .int .i64 ((a1.p + 1 : Nat) : Int), .int .i64 ((a2.p + 1 : Nat) : Int), .bool cl] 52, .obj a0.ch (chO room a0.l cl a0.s a0.r), .obj a1.ch (chO room a1.l cl a1.s a1.r), .obj a2.ch (chO room a2.l cl a2.s a2.r), .bag Gg] w138 := H140
      refine GL.semU (j := 11) r139 [0, 5, 18, 19] [(0, pt d 0), (5, .int .i64 0), (18, .agg #[.chan (some a0.ch), .chan (some a1.ch), .chan (some a2.ch)]), (19, .int .i64 2)] (by kernel_rfl) rfl rfl rfl ?_
      refine GL.k rfl hK109 (fun _ _ h => h) ?_
      refine G.region ?_
      refine GL.run (j := 2) 2 [0, 5, 18, 19] [(0, pt d 0), (5, .int .i64 0), (18, .agg #[.chan (some a0.ch), .chan (some a1.ch), .chan (some a2.ch)]), (19, .int .i64 3)] (by kernel_rfl) rfl ?_
      refine GL.round rfl ?_
      refine G.seqK fun K141 hK142 => ?_
      refine G.region ?_
      refine GL.run (j := 1) 1 [0, 5, 18, 19, 20] [(0, pt d 0), (5, .int .i64 0), (18, .agg #[.chan (some a0.ch), .chan (some a1.ch), .chan (some a2.ch)]), (19, .int .i64 3), (20, .bool false)] (by kernel_rfl) rfl ?_
      refine GL.k rfl hK142 (fun _ _ h => h) ?_
      refine G.seqK fun K143 hK144 => ?_
      refine G.no rfl ?_
      refine G.exitKN hK17 (fun _ _ h => h) ?_
      refine GN.seqK fun K145 hK146 => ?_
      refine G.region ?_
      refine GL.run (j := 5) 5 [0, 5, 46] [(0, pt d 0), (5, .int .i64 0), (46, pt d 3)] (by kernel_rfl) rfl ?_
      obtain ⟨w147, r148, H149⟩ := H140.st (P := Try.prog) (o := 3) (ty := 3) (v := .int .i64 0) 0 rfl (by kernel_rfl) (by simp) rfl
      have H149 : Hp w S [.blk d [.chan (some a0.ch), .chan (some a1.ch), .chan (some a2.ch), .int .i64 0, .int .i64 ((a1.p + 1 : Nat) : Int), .int .i64 ((a2.p + 1 : Nat) : Int), .bool cl] 52, .obj a0.ch (chO room a0.l cl a0.s a0.r), .obj a1.ch (chO room a1.l cl a1.s a1.r), .obj a2.ch (chO room a2.l cl a2.s a2.r), .bag Gg] w147 := H149
      refine GL.semU (j := 6) r148 [0, 5] [(0, pt d 0), (5, .int .i64 0)] (by kernel_rfl) rfl rfl rfl ?_
      refine GL.kN rfl hK146 (fun _ _ h => h) ?_
      refine GN.seqK fun K150 hK151 => ?_
      refine G.region ?_
      refine GL.run (j := 5) 5 [5, 51] [(5, .int .i64 0), (51, pt d 0)] (by kernel_rfl) rfl ?_
      refine GL.sem (j := 6) (H149.ld (o := 0) (ty := 49) (v := .chan (some a0.ch)) 0 rfl (by kernel_rfl) rfl) [5, 52] [(5, .int .i64 0), (52, .chan (some a0.ch))] (by kernel_rfl) (by kernel_rfl) rfl ?_
      refine GL.kN rfl hK151 (fun _ _ h => h) ?_
      refine GN.seqS fun K152 hK153 => ?_
      rw [hlk] at H149
      have H154 : Hp w S [.blk d [.chan (some a0.ch), .chan (some a1.ch), .chan (some a2.ch), .int .i64 0, .int .i64 ((a1.p + 1 : Nat) : Int), .int .i64 ((a2.p + 1 : Nat) : Int), .bool cl] 52, .obj a0.ch (chO room (m_ :: t_) cl a0.s a0.r), .obj a1.ch (chO room a1.l cl a1.s a1.r), .obj a2.ch (chO room a2.l cl a2.s a2.r), .bag Gg] w147 := H149
      refine GN.recvBuf (z := .slice none 0 0) H154 1 (l := t_) (m := m_) rfl rfl rfl rfl (zv _) (by kernel_rfl) [5, 53] [(5, .int .i64 0), (53, .tuple #[.int .i64 0, .bool true, .slice m_.A m_.b.length m_.c])] (by kernel_rfl) (fun w155 H156 => ?_)
      refine GL.run (j := 3) 2 [5, 53, 55] [(5, .int .i64 0), (53, .tuple #[.int .i64 0, .bool true, .slice m_.A m_.b.length m_.c]), (55, .bool true)] (by kernel_rfl) rfl ?_
      refine GL.k rfl hK153 (fun _ _ h => h) ?_
      refine G.block ?_
      refine G.yes rfl ?_
      refine G.seqK fun K157 hK158 => ?_
      refine G.region ?_
      refine GL.run (j := 2) 2 [5, 8] [(5, .int .i64 0), (8, .slice m_.A m_.b.length m_.c)] (by kernel_rfl) rfl ?_
      refine GL.k rfl hK158 (fun _ _ h => h) ?_
      refine G.seqK fun K159 hK160 => ?_
      refine G.region ?_
      refine GL.run (j := 5) 5 [2, 3, 4] [(2, .slice m_.A m_.b.length m_.c), (3, .int .i64 0), (4, .bool true)] (by kernel_rfl) rfl ?_
      refine GL.k rfl hK160 (fun _ _ h => h) ?_
      refine G.ret ?_
      intro F_ hF_ hM_
      refine hRet _ _ (bodyPost_3 rfl (RV.tmp rfl) (RV.tmp rfl) (RV.tmp rfl) ?_ F_ hF_ hM_)
      have HZ : Hp w S [.blk d [.chan (some (a0.took t_).ch), .chan (some a1.pass.ch), .chan (some a2.pass.ch), .int .i64 (((a0.took t_).p : Nat) : Int), .int .i64 (a1.pass.p : Int), .int .i64 (a2.pass.p : Int), .bool cl] 52, .obj (a0.took t_).ch (chO room (a0.took t_).l cl (a0.took t_).s (a0.took t_).r), .obj a1.pass.ch (chO room a1.pass.l cl a1.pass.s a1.pass.r), .obj a2.pass.ch (chO room a2.pass.l cl a2.pass.s a2.pass.r), .bag Gg] w155 := by rw [show a1.pass.p = a1.p + 1 by unfold Lane.pass; exact if_neg (by omega), show a2.pass.p = a2.p + 1 by unfold Lane.pass; exact if_neg (by omega)]; exact H156
      exact ⟨rfl, HZ⟩
set_option maxHeartbeats 4000000 in
theorem Take1_calls (S : List Nat) (d room : Nat) (cl : Bool) (a0 a1 a2 : Lane) (Gg : List (Option Addr × Nat × Nat × TypeId × List Value)) (m_ : Msg) (t_ : List Msg) (w : World) (h0 : Hp w S [.blk d [.chan (some a0.ch), .chan (some a1.ch), .chan (some a2.ch), .int .i64 (a0.p : Int), .int .i64 (a1.p : Int), .int .i64 (a2.p : Int), .bool cl] 52, .obj a0.ch (chO room a0.l cl a0.s a0.r), .obj a1.ch (chO room a1.l cl a1.s a1.r), .obj a2.ch (chO room a2.l cl a2.s a2.r), .bag Gg] w) (hz0 : a0.z) (hz1 : a1.z) (hz2 : a2.z) (htk : tkN a0 a1 a2 = 1) (hlk : a1.l = m_ :: t_) : Calls Try.prog 9 #[pt d 0] w fun e w' => e = .returned (.tuple #[.slice m_.A m_.b.length m_.c, .int .i64 1, .bool true]) ∧ Hp w S [.blk d [.chan (some a0.pass.ch), .chan (some (a1.took t_).ch), .chan (some a2.pass.ch), .int .i64 (a0.pass.p : Int), .int .i64 (((a1.took t_).p : Nat) : Int), .int .i64 (a2.pass.p : Int), .bool cl] 52, .obj a0.pass.ch (chO room a0.pass.l cl a0.pass.s a0.pass.r), .obj (a1.took t_).ch (chO room (a1.took t_).l cl (a1.took t_).s (a1.took t_).r), .obj a2.pass.ch (chO room a2.pass.l cl a2.pass.s a2.pass.r), .bag Gg] w' := by
  have hzp0 := hz0.2
  have hzp1 := hz1.2
  have hzp2 := hz2.2
  refine calls_GN (args := [pt d 0]) Try.func9 rfl Try.ntmps9 rfl ?_
  intro Q0 hRet hNor hPan
  have H := h0
  have H : Hp w S [.blk d [.chan (some a0.ch), .chan (some a1.ch), .chan (some a2.ch), .int .i64 (a0.p : Int), .int .i64 (a1.p : Int), .int .i64 (a2.p : Int), .bool cl] 52, .obj a0.ch (chO room a0.l cl a0.s a0.r), .obj a1.ch (chO room a1.l cl a1.s a1.r), .obj a2.ch (chO room a2.l cl a2.s a2.r), .bag Gg] w := H
  refine GN.seqK fun K1 hK2 => ?_
  refine G.region ?_
  refine GL.run (j := 3) 3 [0] [(0, pt d 0)] (by kernel_rfl) rfl ?_
  refine GL.kN rfl hK2 (fun _ _ h => h) ?_
  refine GN.seqK fun K3 hK4 => ?_
  refine G.seqK fun K5 hK6 => ?_
  refine G.region ?_
  refine GL.run (j := 2) 2 [0, 10] [(0, pt d 0), (10, .bool false)] (by kernel_rfl) rfl ?_
  refine GL.k rfl hK6 (fun _ _ h => h) ?_
  refine G.no rfl ?_
  refine G.skipKN hK4 (fun _ _ h => h) ?_
  refine GN.seqK fun K7 hK8 => ?_
  refine G.region ?_
  refine GL.run (j := 1) 1 [0, 11] [(0, pt d 0), (11, pt d 0)] (by kernel_rfl) rfl ?_
  refine GL.call (j := 2) ((by have h_ := next_calls (ids [.blk d [.chan (some a0.ch), .chan (some a1.ch), .chan (some a2.ch), .int .i64 (a0.p : Int), .int .i64 (a1.p : Int), .int .i64 (a2.p : Int), .bool cl] 52, .obj a0.ch (chO room a0.l cl a0.s a0.r), .obj a1.ch (chO room a1.l cl a1.s a1.r), .obj a2.ch (chO room a2.l cl a2.s a2.r), .bag Gg]) d room cl a0 a1 a2 Gg w (Hp.startL (A := [.blk d [.chan (some a0.ch), .chan (some a1.ch), .chan (some a2.ch), .int .i64 (a0.p : Int), .int .i64 (a1.p : Int), .int .i64 (a2.p : Int), .bool cl] 52, .obj a0.ch (chO room a0.l cl a0.s a0.r), .obj a1.ch (chO room a1.l cl a1.s a1.r), .obj a2.ch (chO room a2.l cl a2.s a2.r), .bag Gg]) (B := []) H) hz0 hz1 hz2; rw [show tkI a0 a1 a2 = 1 by unfold tkI; rw [htk]; rfl] at h_; exact h_)) (by kernel_rfl) rfl (fun e_ w9 hR => ?_)
  obtain ⟨rfl, H11⟩ := hR
  have H10 : Hp w S [.blk d [.chan (some a0.ch), .chan (some a1.ch), .chan (some a2.ch), .int .i64 (a0.p : Int), .int .i64 (a1.p : Int), .int .i64 (a2.p : Int), .bool cl] 52, .obj a0.ch (chO room a0.l cl a0.s a0.r), .obj a1.ch (chO room a1.l cl a1.s a1.r), .obj a2.ch (chO room a2.l cl a2.s a2.r), .bag Gg] w9 := Hp.callL (A := [.blk d [.chan (some a0.ch), .chan (some a1.ch), .chan (some a2.ch), .int .i64 (a0.p : Int), .int .i64 (a1.p : Int), .int .i64 (a2.p : Int), .bool cl] 52, .obj a0.ch (chO room a0.l cl a0.s a0.r), .obj a1.ch (chO room a1.l cl a1.s a1.r), .obj a2.ch (chO room a2.l cl a2.s a2.r), .bag Gg]) (B := []) H H11
  refine ⟨_, rfl, [0, 12], [(0, pt d 0), (12, .int .i64 1)], by kernel_rfl, ?_⟩
  refine GL.run (j := 3) 1 [0, 5] [(0, pt d 0), (5, .int .i64 1)] (by kernel_rfl) rfl ?_
  refine GL.kN rfl hK8 (fun _ _ h => h) ?_
  refine GN.seqK fun K12 hK13 => ?_
  refine G.seqK fun K14 hK15 => ?_
  refine G.region ?_
  refine GL.run (j := 2) 2 [0, 5, 14] [(0, pt d 0), (5, .int .i64 1), (14, .bool false)] (by kernel_rfl) rfl ?_
  refine GL.k rfl hK15 (fun _ _ h => h) ?_
  refine G.no rfl ?_
  refine G.skipKN hK13 (fun _ _ h => h) ?_
  refine GN.seqK fun K16 hK17 => ?_
  refine G.seqK fun K18 hK19 => ?_
  refine G.region ?_
  refine GL.run (j := 3) 3 [0, 5, 17] [(0, pt d 0), (5, .int .i64 1), (17, pt d 0)] (by kernel_rfl) rfl ?_
  refine GL.sem (j := 4) (H10.ldA (o := 0) (ty := 50) (m := 3) (sub := [.chan (some a0.ch), .chan (some a1.ch), .chan (some a2.ch)]) 0 rfl (by kernel_rfl) rfl rfl) [0, 5, 18] [(0, pt d 0), (5, .int .i64 1), (18, .agg #[.chan (some a0.ch), .chan (some a1.ch), .chan (some a2.ch)])] (by kernel_rfl) (by kernel_rfl) rfl ?_
  refine GL.run (j := 5) 1 [0, 5, 18, 19] [(0, pt d 0), (5, .int .i64 1), (18, .agg #[.chan (some a0.ch), .chan (some a1.ch), .chan (some a2.ch)]), (19, .int .i64 0)] (by kernel_rfl) rfl ?_
  refine GL.k rfl hK19 (fun _ _ h => h) ?_
  refine G.block ?_
  refine G.unroll 3 ?_
  refine G.seqK fun K20 hK21 => ?_
  refine G.region ?_
  refine GL.run (j := 1) 1 [0, 5, 18, 19, 20] [(0, pt d 0), (5, .int .i64 1), (18, .agg #[.chan (some a0.ch), .chan (some a1.ch), .chan (some a2.ch)]), (19, .int .i64 0), (20, .bool true)] (by kernel_rfl) rfl ?_
  refine GL.k rfl hK21 (fun _ _ h => h) ?_
  refine G.seqK fun K22 hK23 => ?_
  refine G.yes rfl ?_
  refine G.skipK hK23 (fun _ _ h => h) ?_
  refine G.seqK fun K24 hK25 => ?_
  refine G.block ?_
  refine G.seqK fun K26 hK27 => ?_
  refine G.region ?_
  refine GL.run (j := 4) 4 [0, 5, 6, 7, 18, 19] [(0, pt d 0), (5, .int .i64 1), (6, .int .i64 0), (7, .chan (some a0.ch)), (18, .agg #[.chan (some a0.ch), .chan (some a1.ch), .chan (some a2.ch)]), (19, .int .i64 0)] (by kernel_rfl) rfl ?_
  refine GL.k rfl hK27 (fun _ _ h => h) ?_
  refine G.seqK fun K28 hK29 => ?_
  refine G.region ?_
  refine GL.run (j := 5) 5 [0, 5, 6, 18, 19, 26, 27] [(0, pt d 0), (5, .int .i64 1), (6, .int .i64 0), (18, .agg #[.chan (some a0.ch), .chan (some a1.ch), .chan (some a2.ch)]), (19, .int .i64 0), (26, .bool true), (27, .chan (some a0.ch))] (by kernel_rfl) rfl ?_
  refine GL.sem (j := 6) (H10.lenChan (P := Try.prog) (t := 49) (ty := 3) (l := a0.l) 1 rfl Try.underlying49) [0, 5, 6, 18, 19, 26, 28] [(0, pt d 0), (5, .int .i64 1), (6, .int .i64 0), (18, .agg #[.chan (some a0.ch), .chan (some a1.ch), .chan (some a2.ch)]), (19, .int .i64 0), (26, .bool true), (28, .int .i64 (a0.l.length : Int))] (by kernel_rfl) (by kernel_rfl) rfl ?_
  refine GL.run (j := 8) 2 [0, 5, 6, 18, 19, 30] [(0, pt d 0), (5, .int .i64 1), (6, .int .i64 0), (18, .agg #[.chan (some a0.ch), .chan (some a1.ch), .chan (some a2.ch)]), (19, .int .i64 0), (30, .bool (decide (0 < (a0.l.length : Int))))] (by kernel_rfl) rfl ?_
  refine GL.k rfl hK29 (fun _ _ h => h) ?_
  cases hb30 : (decide (0 < (a0.l.length : Int)))
  · skip
    have hb30f := of_decide_eq_false hb30
    refine G.no rfl ?_
    refine G.skipK hK25 (fun _ _ h => h) ?_
    refine G.region ?_
    refine GL.run (j := 2) 2 [0, 5, 18, 19] [(0, pt d 0), (5, .int .i64 1), (18, .agg #[.chan (some a0.ch), .chan (some a1.ch), .chan (some a2.ch)]), (19, .int .i64 1)] (by kernel_rfl) rfl ?_
    refine GL.round rfl ?_
    refine G.seqK fun K31 hK32 => ?_
    refine G.region ?_
    refine GL.run (j := 1) 1 [0, 5, 18, 19, 20] [(0, pt d 0), (5, .int .i64 1), (18, .agg #[.chan (some a0.ch), .chan (some a1.ch), .chan (some a2.ch)]), (19, .int .i64 1), (20, .bool true)] (by kernel_rfl) rfl ?_
    refine GL.k rfl hK32 (fun _ _ h => h) ?_
    refine G.seqK fun K33 hK34 => ?_
    refine G.yes rfl ?_
    refine G.skipK hK34 (fun _ _ h => h) ?_
    refine G.seqK fun K35 hK36 => ?_
    refine G.block ?_
    refine G.seqK fun K37 hK38 => ?_
    refine G.region ?_
    refine GL.run (j := 4) 4 [0, 5, 6, 7, 18, 19] [(0, pt d 0), (5, .int .i64 1), (6, .int .i64 1), (7, .chan (some a1.ch)), (18, .agg #[.chan (some a0.ch), .chan (some a1.ch), .chan (some a2.ch)]), (19, .int .i64 1)] (by kernel_rfl) rfl ?_
    refine GL.k rfl hK38 (fun _ _ h => h) ?_
    refine G.seqK fun K39 hK40 => ?_
    refine G.region ?_
    refine GL.run (j := 8) 8 [0, 5, 6, 18, 19, 30] [(0, pt d 0), (5, .int .i64 1), (6, .int .i64 1), (18, .agg #[.chan (some a0.ch), .chan (some a1.ch), .chan (some a2.ch)]), (19, .int .i64 1), (30, .bool false)] (by kernel_rfl) rfl ?_
    refine GL.k rfl hK40 (fun _ _ h => h) ?_
    refine G.no rfl ?_
    refine G.skipK hK36 (fun _ _ h => h) ?_
    refine G.region ?_
    refine GL.run (j := 2) 2 [0, 5, 18, 19] [(0, pt d 0), (5, .int .i64 1), (18, .agg #[.chan (some a0.ch), .chan (some a1.ch), .chan (some a2.ch)]), (19, .int .i64 2)] (by kernel_rfl) rfl ?_
    refine GL.round rfl ?_
    refine G.seqK fun K41 hK42 => ?_
    refine G.region ?_
    refine GL.run (j := 1) 1 [0, 5, 18, 19, 20] [(0, pt d 0), (5, .int .i64 1), (18, .agg #[.chan (some a0.ch), .chan (some a1.ch), .chan (some a2.ch)]), (19, .int .i64 2), (20, .bool true)] (by kernel_rfl) rfl ?_
    refine GL.k rfl hK42 (fun _ _ h => h) ?_
    refine G.seqK fun K43 hK44 => ?_
    refine G.yes rfl ?_
    refine G.skipK hK44 (fun _ _ h => h) ?_
    refine G.seqK fun K45 hK46 => ?_
    refine G.block ?_
    refine G.seqK fun K47 hK48 => ?_
    refine G.region ?_
    refine GL.run (j := 4) 4 [0, 5, 6, 7, 18, 19] [(0, pt d 0), (5, .int .i64 1), (6, .int .i64 2), (7, .chan (some a2.ch)), (18, .agg #[.chan (some a0.ch), .chan (some a1.ch), .chan (some a2.ch)]), (19, .int .i64 2)] (by kernel_rfl) rfl ?_
    refine GL.k rfl hK48 (fun _ _ h => h) ?_
    refine G.seqK fun K49 hK50 => ?_
    refine G.region ?_
    refine GL.run (j := 5) 5 [0, 5, 6, 18, 19, 26, 27] [(0, pt d 0), (5, .int .i64 1), (6, .int .i64 2), (18, .agg #[.chan (some a0.ch), .chan (some a1.ch), .chan (some a2.ch)]), (19, .int .i64 2), (26, .bool true), (27, .chan (some a2.ch))] (by kernel_rfl) rfl ?_
    refine GL.sem (j := 6) (H10.lenChan (P := Try.prog) (t := 49) (ty := 3) (l := a2.l) 3 rfl Try.underlying49) [0, 5, 6, 18, 19, 26, 28] [(0, pt d 0), (5, .int .i64 1), (6, .int .i64 2), (18, .agg #[.chan (some a0.ch), .chan (some a1.ch), .chan (some a2.ch)]), (19, .int .i64 2), (26, .bool true), (28, .int .i64 (a2.l.length : Int))] (by kernel_rfl) (by kernel_rfl) rfl ?_
    refine GL.run (j := 8) 2 [0, 5, 6, 18, 19, 30] [(0, pt d 0), (5, .int .i64 1), (6, .int .i64 2), (18, .agg #[.chan (some a0.ch), .chan (some a1.ch), .chan (some a2.ch)]), (19, .int .i64 2), (30, .bool (decide (0 < (a2.l.length : Int))))] (by kernel_rfl) rfl ?_
    refine GL.k rfl hK50 (fun _ _ h => h) ?_
    cases hb51 : (decide (0 < (a2.l.length : Int)))
    · skip
      have hb51f := of_decide_eq_false hb51
      refine G.no rfl ?_
      refine G.skipK hK46 (fun _ _ h => h) ?_
      refine G.region ?_
      refine GL.run (j := 2) 2 [0, 5, 18, 19] [(0, pt d 0), (5, .int .i64 1), (18, .agg #[.chan (some a0.ch), .chan (some a1.ch), .chan (some a2.ch)]), (19, .int .i64 3)] (by kernel_rfl) rfl ?_
      refine GL.round rfl ?_
      refine G.seqK fun K52 hK53 => ?_
      refine G.region ?_
      refine GL.run (j := 1) 1 [0, 5, 18, 19, 20] [(0, pt d 0), (5, .int .i64 1), (18, .agg #[.chan (some a0.ch), .chan (some a1.ch), .chan (some a2.ch)]), (19, .int .i64 3), (20, .bool false)] (by kernel_rfl) rfl ?_
      refine GL.k rfl hK53 (fun _ _ h => h) ?_
      refine G.seqK fun K54 hK55 => ?_
      refine G.no rfl ?_
      refine G.exitKN hK17 (fun _ _ h => h) ?_
      refine GN.seqK fun K56 hK57 => ?_
      refine G.region ?_
      refine GL.run (j := 5) 5 [0, 5, 46] [(0, pt d 0), (5, .int .i64 1), (46, pt d 4)] (by kernel_rfl) rfl ?_
      obtain ⟨w58, r59, H60⟩ := H10.st (P := Try.prog) (o := 4) (ty := 3) (v := .int .i64 0) 0 rfl (by kernel_rfl) (by simp) rfl
      have H60 : Hp w S [.blk d [.chan (some a0.ch), .chan (some a1.ch), .chan (some a2.ch), .int .i64 (a0.p : Int), .int .i64 0, .int .i64 (a2.p : Int), .bool cl] 52, .obj a0.ch (chO room a0.l cl a0.s a0.r), .obj a1.ch (chO room a1.l cl a1.s a1.r), .obj a2.ch (chO room a2.l cl a2.s a2.r), .bag Gg] w58 := H60
      refine GL.semU (j := 6) r59 [0, 5] [(0, pt d 0), (5, .int .i64 1)] (by kernel_rfl) rfl rfl rfl ?_
      refine GL.kN rfl hK57 (fun _ _ h => h) ?_
      refine GN.seqK fun K61 hK62 => ?_
      refine G.region ?_
      refine GL.run (j := 5) 5 [5, 51] [(5, .int .i64 1), (51, pt d 1)] (by kernel_rfl) rfl ?_
      refine GL.sem (j := 6) (H60.ld (o := 1) (ty := 49) (v := .chan (some a1.ch)) 0 rfl (by kernel_rfl) rfl) [5, 52] [(5, .int .i64 1), (52, .chan (some a1.ch))] (by kernel_rfl) (by kernel_rfl) rfl ?_
      refine GL.kN rfl hK62 (fun _ _ h => h) ?_
      refine GN.seqS fun K63 hK64 => ?_
      rw [hlk] at H60
      have H65 : Hp w S [.blk d [.chan (some a0.ch), .chan (some a1.ch), .chan (some a2.ch), .int .i64 (a0.p : Int), .int .i64 0, .int .i64 (a2.p : Int), .bool cl] 52, .obj a0.ch (chO room a0.l cl a0.s a0.r), .obj a1.ch (chO room (m_ :: t_) cl a1.s a1.r), .obj a2.ch (chO room a2.l cl a2.s a2.r), .bag Gg] w58 := H60
      refine GN.recvBuf (z := .slice none 0 0) H65 2 (l := t_) (m := m_) rfl rfl rfl rfl (zv _) (by kernel_rfl) [5, 53] [(5, .int .i64 1), (53, .tuple #[.int .i64 0, .bool true, .slice m_.A m_.b.length m_.c])] (by kernel_rfl) (fun w66 H67 => ?_)
      refine GL.run (j := 3) 2 [5, 53, 55] [(5, .int .i64 1), (53, .tuple #[.int .i64 0, .bool true, .slice m_.A m_.b.length m_.c]), (55, .bool true)] (by kernel_rfl) rfl ?_
      refine GL.k rfl hK64 (fun _ _ h => h) ?_
      refine G.block ?_
      refine G.yes rfl ?_
      refine G.seqK fun K68 hK69 => ?_
      refine G.region ?_
      refine GL.run (j := 2) 2 [5, 8] [(5, .int .i64 1), (8, .slice m_.A m_.b.length m_.c)] (by kernel_rfl) rfl ?_
      refine GL.k rfl hK69 (fun _ _ h => h) ?_
      refine G.seqK fun K70 hK71 => ?_
      refine G.region ?_
      refine GL.run (j := 5) 5 [2, 3, 4] [(2, .slice m_.A m_.b.length m_.c), (3, .int .i64 1), (4, .bool true)] (by kernel_rfl) rfl ?_
      refine GL.k rfl hK71 (fun _ _ h => h) ?_
      refine G.ret ?_
      intro F_ hF_ hM_
      refine hRet _ _ (bodyPost_3 rfl (RV.tmp rfl) (RV.tmp rfl) (RV.tmp rfl) ?_ F_ hF_ hM_)
      have HZ : Hp w S [.blk d [.chan (some a0.pass.ch), .chan (some (a1.took t_).ch), .chan (some a2.pass.ch), .int .i64 (a0.pass.p : Int), .int .i64 (((a1.took t_).p : Nat) : Int), .int .i64 (a2.pass.p : Int), .bool cl] 52, .obj a0.pass.ch (chO room a0.pass.l cl a0.pass.s a0.pass.r), .obj (a1.took t_).ch (chO room (a1.took t_).l cl (a1.took t_).s (a1.took t_).r), .obj a2.pass.ch (chO room a2.pass.l cl a2.pass.s a2.pass.r), .bag Gg] w66 := by rw [show a0.pass.p = a0.p by unfold Lane.pass; exact if_pos (by omega), show a2.pass.p = a2.p by unfold Lane.pass; exact if_pos (by omega)]; exact H67
      exact ⟨rfl, HZ⟩
    · skip
      have hb51f := of_decide_eq_true hb51
      refine G.yes rfl ?_
      refine G.tail 10 (by kernel_rfl) (by kernel_rfl) ?_
      have H72 := H10.drew
      generalize ({ w9 with drawn := w9.drawn + 1 } : World) = w73 at H72 ⊢
      refine GS.run (j := 5) 5 [0, 5, 18, 19, 31, 32, 35] [(0, pt d 0), (5, .int .i64 1), (18, .agg #[.chan (some a0.ch), .chan (some a1.ch), .chan (some a2.ch)]), (19, .int .i64 2), (31, pt d 0), (32, .int .i64 2), (35, pt d 5)] (by kernel_rfl) rfl rfl ?_
      refine GS.sem (j := 6) (H72.ld (o := 5) (ty := 3) (v := .int .i64 (a2.p : Int)) 0 rfl (by kernel_rfl) rfl) [0, 5, 18, 19, 31, 32, 36] [(0, pt d 0), (5, .int .i64 1), (18, .agg #[.chan (some a0.ch), .chan (some a1.ch), .chan (some a2.ch)]), (19, .int .i64 2), (31, pt d 0), (32, .int .i64 2), (36, .int .i64 (a2.p : Int))] (by kernel_rfl) (by kernel_rfl) rfl rfl ?_
      refine GS.run (j := 10) 4 [0, 5, 18, 19, 37, 40] [(0, pt d 0), (5, .int .i64 1), (18, .agg #[.chan (some a0.ch), .chan (some a1.ch), .chan (some a2.ch)]), (19, .int .i64 2), (37, .int .i64 (IntKind.i64.wrap ((a2.p : Int) + 1))), (40, pt d 5)] (by kernel_rfl) rfl rfl ?_
      have e74 : (IntKind.i64.wrap ((a2.p : Int) + 1)) = ((a2.p + 1 : Nat) : Int) := by rw [in_i64 (by omega)]; omega
      refine GS.eq (M' := [(0, pt d 0), (5, .int .i64 1), (18, .agg #[.chan (some a0.ch), .chan (some a1.ch), .chan (some a2.ch)]), (19, .int .i64 2), (37, .int .i64 ((a2.p + 1 : Nat) : Int)), (40, pt d 5)]) (by rw [e74]) ?_
      clear e74
      refine GS.tail rfl ?_
      obtain ⟨w75, r76, H77⟩ := H72.st (P := Try.prog) (o := 5) (ty := 3) (v := .int .i64 ((a2.p + 1 : Nat) : Int)) 0 rfl (by kernel_rfl) (by simp) rfl
      have H77 : Hp w S [.blk d [.chan (some a0.ch), .chan (some a1.ch), .chan (some a2.ch), .int .i64 (a0.p : Int), .int .i64 (a1.p : Int), .int .i64 ((a2.p + 1 : Nat) : Int), .bool cl] 52, .obj a0.ch (chO room a0.l cl a0.s a0.r), .obj a1.ch (chO room a1.l cl a1.s a1.r), .obj a2.ch (chO room a2.l cl a2.s a2.r), .bag Gg] w75 := H77
      refine GL.semU (j := 11) r76 [0, 5, 18, 19] [(0, pt d 0), (5, .int .i64 1), (18, .agg #[.chan (some a0.ch), .chan (some a1.ch), .chan (some a2.ch)]), (19, .int .i64 2)] (by kernel_rfl) rfl rfl rfl ?_
      refine GL.k rfl hK46 (fun _ _ h => h) ?_
      refine G.region ?_
      refine GL.run (j := 2) 2 [0, 5, 18, 19] [(0, pt d 0), (5, .int .i64 1), (18, .agg #[.chan (some a0.ch), .chan (some a1.ch), .chan (some a2.ch)]), (19, .int .i64 3)] (by kernel_rfl) rfl ?_
      refine GL.round rfl ?_
      refine G.seqK fun K78 hK79 => ?_
      refine G.region ?_
      refine GL.run (j := 1) 1 [0, 5, 18, 19, 20] [(0, pt d 0), (5, .int .i64 1), (18, .agg #[.chan (some a0.ch), .chan (some a1.ch), .chan (some a2.ch)]), (19, .int .i64 3), (20, .bool false)] (by kernel_rfl) rfl ?_
      refine GL.k rfl hK79 (fun _ _ h => h) ?_
      refine G.seqK fun K80 hK81 => ?_
      refine G.no rfl ?_
      refine G.exitKN hK17 (fun _ _ h => h) ?_
      refine GN.seqK fun K82 hK83 => ?_
      refine G.region ?_
      refine GL.run (j := 5) 5 [0, 5, 46] [(0, pt d 0), (5, .int .i64 1), (46, pt d 4)] (by kernel_rfl) rfl ?_
      obtain ⟨w84, r85, H86⟩ := H77.st (P := Try.prog) (o := 4) (ty := 3) (v := .int .i64 0) 0 rfl (by kernel_rfl) (by simp) rfl
      have H86 : Hp w S [.blk d [.chan (some a0.ch), .chan (some a1.ch), .chan (some a2.ch), .int .i64 (a0.p : Int), .int .i64 0, .int .i64 ((a2.p + 1 : Nat) : Int), .bool cl] 52, .obj a0.ch (chO room a0.l cl a0.s a0.r), .obj a1.ch (chO room a1.l cl a1.s a1.r), .obj a2.ch (chO room a2.l cl a2.s a2.r), .bag Gg] w84 := H86
      refine GL.semU (j := 6) r85 [0, 5] [(0, pt d 0), (5, .int .i64 1)] (by kernel_rfl) rfl rfl rfl ?_
      refine GL.kN rfl hK83 (fun _ _ h => h) ?_
      refine GN.seqK fun K87 hK88 => ?_
      refine G.region ?_
      refine GL.run (j := 5) 5 [5, 51] [(5, .int .i64 1), (51, pt d 1)] (by kernel_rfl) rfl ?_
      refine GL.sem (j := 6) (H86.ld (o := 1) (ty := 49) (v := .chan (some a1.ch)) 0 rfl (by kernel_rfl) rfl) [5, 52] [(5, .int .i64 1), (52, .chan (some a1.ch))] (by kernel_rfl) (by kernel_rfl) rfl ?_
      refine GL.kN rfl hK88 (fun _ _ h => h) ?_
      refine GN.seqS fun K89 hK90 => ?_
      rw [hlk] at H86
      have H91 : Hp w S [.blk d [.chan (some a0.ch), .chan (some a1.ch), .chan (some a2.ch), .int .i64 (a0.p : Int), .int .i64 0, .int .i64 ((a2.p + 1 : Nat) : Int), .bool cl] 52, .obj a0.ch (chO room a0.l cl a0.s a0.r), .obj a1.ch (chO room (m_ :: t_) cl a1.s a1.r), .obj a2.ch (chO room a2.l cl a2.s a2.r), .bag Gg] w84 := H86
      refine GN.recvBuf (z := .slice none 0 0) H91 2 (l := t_) (m := m_) rfl rfl rfl rfl (zv _) (by kernel_rfl) [5, 53] [(5, .int .i64 1), (53, .tuple #[.int .i64 0, .bool true, .slice m_.A m_.b.length m_.c])] (by kernel_rfl) (fun w92 H93 => ?_)
      refine GL.run (j := 3) 2 [5, 53, 55] [(5, .int .i64 1), (53, .tuple #[.int .i64 0, .bool true, .slice m_.A m_.b.length m_.c]), (55, .bool true)] (by kernel_rfl) rfl ?_
      refine GL.k rfl hK90 (fun _ _ h => h) ?_
      refine G.block ?_
      refine G.yes rfl ?_
      refine G.seqK fun K94 hK95 => ?_
      refine G.region ?_
      refine GL.run (j := 2) 2 [5, 8] [(5, .int .i64 1), (8, .slice m_.A m_.b.length m_.c)] (by kernel_rfl) rfl ?_
      refine GL.k rfl hK95 (fun _ _ h => h) ?_
      refine G.seqK fun K96 hK97 => ?_
      refine G.region ?_
      refine GL.run (j := 5) 5 [2, 3, 4] [(2, .slice m_.A m_.b.length m_.c), (3, .int .i64 1), (4, .bool true)] (by kernel_rfl) rfl ?_
      refine GL.k rfl hK97 (fun _ _ h => h) ?_
      refine G.ret ?_
      intro F_ hF_ hM_
      refine hRet _ _ (bodyPost_3 rfl (RV.tmp rfl) (RV.tmp rfl) (RV.tmp rfl) ?_ F_ hF_ hM_)
      have HZ : Hp w S [.blk d [.chan (some a0.pass.ch), .chan (some (a1.took t_).ch), .chan (some a2.pass.ch), .int .i64 (a0.pass.p : Int), .int .i64 (((a1.took t_).p : Nat) : Int), .int .i64 (a2.pass.p : Int), .bool cl] 52, .obj a0.pass.ch (chO room a0.pass.l cl a0.pass.s a0.pass.r), .obj (a1.took t_).ch (chO room (a1.took t_).l cl (a1.took t_).s (a1.took t_).r), .obj a2.pass.ch (chO room a2.pass.l cl a2.pass.s a2.pass.r), .bag Gg] w92 := by rw [show a0.pass.p = a0.p by unfold Lane.pass; exact if_pos (by omega), show a2.pass.p = a2.p + 1 by unfold Lane.pass; exact if_neg (by omega)]; exact H93
      exact ⟨rfl, HZ⟩
  · skip
    have hb30f := of_decide_eq_true hb30
    refine G.yes rfl ?_
    refine G.tail 10 (by kernel_rfl) (by kernel_rfl) ?_
    have H98 := H10.drew
    generalize ({ w9 with drawn := w9.drawn + 1 } : World) = w99 at H98 ⊢
    refine GS.run (j := 5) 5 [0, 5, 18, 19, 31, 32, 35] [(0, pt d 0), (5, .int .i64 1), (18, .agg #[.chan (some a0.ch), .chan (some a1.ch), .chan (some a2.ch)]), (19, .int .i64 0), (31, pt d 0), (32, .int .i64 0), (35, pt d 3)] (by kernel_rfl) rfl rfl ?_
    refine GS.sem (j := 6) (H98.ld (o := 3) (ty := 3) (v := .int .i64 (a0.p : Int)) 0 rfl (by kernel_rfl) rfl) [0, 5, 18, 19, 31, 32, 36] [(0, pt d 0), (5, .int .i64 1), (18, .agg #[.chan (some a0.ch), .chan (some a1.ch), .chan (some a2.ch)]), (19, .int .i64 0), (31, pt d 0), (32, .int .i64 0), (36, .int .i64 (a0.p : Int))] (by kernel_rfl) (by kernel_rfl) rfl rfl ?_
    refine GS.run (j := 10) 4 [0, 5, 18, 19, 37, 40] [(0, pt d 0), (5, .int .i64 1), (18, .agg #[.chan (some a0.ch), .chan (some a1.ch), .chan (some a2.ch)]), (19, .int .i64 0), (37, .int .i64 (IntKind.i64.wrap ((a0.p : Int) + 1))), (40, pt d 3)] (by kernel_rfl) rfl rfl ?_
    have e100 : (IntKind.i64.wrap ((a0.p : Int) + 1)) = ((a0.p + 1 : Nat) : Int) := by rw [in_i64 (by omega)]; omega
    refine GS.eq (M' := [(0, pt d 0), (5, .int .i64 1), (18, .agg #[.chan (some a0.ch), .chan (some a1.ch), .chan (some a2.ch)]), (19, .int .i64 0), (37, .int .i64 ((a0.p + 1 : Nat) : Int)), (40, pt d 3)]) (by rw [e100]) ?_
    clear e100
    refine GS.tail rfl ?_
    obtain ⟨w101, r102, H103⟩ := H98.st (P := Try.prog) (o := 3) (ty := 3) (v := .int .i64 ((a0.p + 1 : Nat) : Int)) 0 rfl (by kernel_rfl) (by simp) rfl
    have H103 : Hp w S [.blk d [.chan (some a0.ch), .chan (some a1.ch), .chan (some a2.ch), .int .i64 ((a0.p + 1 : Nat) : Int), .int .i64 (a1.p : Int), .int .i64 (a2.p : Int), .bool cl] 52, .obj a0.ch (chO room a0.l cl a0.s a0.r), .obj a1.ch (chO room a1.l cl a1.s a1.r), .obj a2.ch (chO room a2.l cl a2.s a2.r), .bag Gg] w101 := H103
    refine GL.semU (j := 11) r102 [0, 5, 18, 19] [(0, pt d 0), (5, .int .i64 1), (18, .agg #[.chan (some a0.ch), .chan (some a1.ch), .chan (some a2.ch)]), (19, .int .i64 0)] (by kernel_rfl) rfl rfl rfl ?_
    refine GL.k rfl hK25 (fun _ _ h => h) ?_
    refine G.region ?_
    refine GL.run (j := 2) 2 [0, 5, 18, 19] [(0, pt d 0), (5, .int .i64 1), (18, .agg #[.chan (some a0.ch), .chan (some a1.ch), .chan (some a2.ch)]), (19, .int .i64 1)] (by kernel_rfl) rfl ?_
    refine GL.round rfl ?_
    refine G.seqK fun K104 hK105 => ?_
    refine G.region ?_
    refine GL.run (j := 1) 1 [0, 5, 18, 19, 20] [(0, pt d 0), (5, .int .i64 1), (18, .agg #[.chan (some a0.ch), .chan (some a1.ch), .chan (some a2.ch)]), (19, .int .i64 1), (20, .bool true)] (by kernel_rfl) rfl ?_
    refine GL.k rfl hK105 (fun _ _ h => h) ?_
    refine G.seqK fun K106 hK107 => ?_
    refine G.yes rfl ?_
    refine G.skipK hK107 (fun _ _ h => h) ?_
    refine G.seqK fun K108 hK109 => ?_
    refine G.block ?_
    refine G.seqK fun K110 hK111 => ?_
    refine G.region ?_
    refine GL.run (j := 4) 4 [0, 5, 6, 7, 18, 19] [(0, pt d 0), (5, .int .i64 1), (6, .int .i64 1), (7, .chan (some a1.ch)), (18, .agg #[.chan (some a0.ch), .chan (some a1.ch), .chan (some a2.ch)]), (19, .int .i64 1)] (by kernel_rfl) rfl ?_
    refine GL.k rfl hK111 (fun _ _ h => h) ?_
    refine G.seqK fun K112 hK113 => ?_
    refine G.region ?_
    refine GL.run (j := 8) 8 [0, 5, 6, 18, 19, 30] [(0, pt d 0), (5, .int .i64 1), (6, .int .i64 1), (18, .agg #[.chan (some a0.ch), .chan (some a1.ch), .chan (some a2.ch)]), (19, .int .i64 1), (30, .bool false)] (by kernel_rfl) rfl ?_
    refine GL.k rfl hK113 (fun _ _ h => h) ?_
    refine G.no rfl ?_
    refine G.skipK hK109 (fun _ _ h => h) ?_
    refine G.region ?_
    refine GL.run (j := 2) 2 [0, 5, 18, 19] [(0, pt d 0), (5, .int .i64 1), (18, .agg #[.chan (some a0.ch), .chan (some a1.ch), .chan (some a2.ch)]), (19, .int .i64 2)] (by kernel_rfl) rfl ?_
    refine GL.round rfl ?_
    refine G.seqK fun K114 hK115 => ?_
    refine G.region ?_
    refine GL.run (j := 1) 1 [0, 5, 18, 19, 20] [(0, pt d 0), (5, .int .i64 1), (18, .agg #[.chan (some a0.ch), .chan (some a1.ch), .chan (some a2.ch)]), (19, .int .i64 2), (20, .bool true)] (by kernel_rfl) rfl ?_
    refine GL.k rfl hK115 (fun _ _ h => h) ?_
    refine G.seqK fun K116 hK117 => ?_
    refine G.yes rfl ?_
    refine G.skipK hK117 (fun _ _ h => h) ?_
    refine G.seqK fun K118 hK119 => ?_
    refine G.block ?_
    refine G.seqK fun K120 hK121 => ?_
    refine G.region ?_
    refine GL.run (j := 4) 4 [0, 5, 6, 7, 18, 19] [(0, pt d 0), (5, .int .i64 1), (6, .int .i64 2), (7, .chan (some a2.ch)), (18, .agg #[.chan (some a0.ch), .chan (some a1.ch), .chan (some a2.ch)]), (19, .int .i64 2)] (by kernel_rfl) rfl ?_
    refine GL.k rfl hK121 (fun _ _ h => h) ?_
    refine G.seqK fun K122 hK123 => ?_
    refine G.region ?_
    refine GL.run (j := 5) 5 [0, 5, 6, 18, 19, 26, 27] [(0, pt d 0), (5, .int .i64 1), (6, .int .i64 2), (18, .agg #[.chan (some a0.ch), .chan (some a1.ch), .chan (some a2.ch)]), (19, .int .i64 2), (26, .bool true), (27, .chan (some a2.ch))] (by kernel_rfl) rfl ?_
    refine GL.sem (j := 6) (H103.lenChan (P := Try.prog) (t := 49) (ty := 3) (l := a2.l) 3 rfl Try.underlying49) [0, 5, 6, 18, 19, 26, 28] [(0, pt d 0), (5, .int .i64 1), (6, .int .i64 2), (18, .agg #[.chan (some a0.ch), .chan (some a1.ch), .chan (some a2.ch)]), (19, .int .i64 2), (26, .bool true), (28, .int .i64 (a2.l.length : Int))] (by kernel_rfl) (by kernel_rfl) rfl ?_
    refine GL.run (j := 8) 2 [0, 5, 6, 18, 19, 30] [(0, pt d 0), (5, .int .i64 1), (6, .int .i64 2), (18, .agg #[.chan (some a0.ch), .chan (some a1.ch), .chan (some a2.ch)]), (19, .int .i64 2), (30, .bool (decide (0 < (a2.l.length : Int))))] (by kernel_rfl) rfl ?_
    refine GL.k rfl hK123 (fun _ _ h => h) ?_
    cases hb124 : (decide (0 < (a2.l.length : Int)))
    · skip
      have hb124f := of_decide_eq_false hb124
      refine G.no rfl ?_
      refine G.skipK hK119 (fun _ _ h => h) ?_
      refine G.region ?_
      refine GL.run (j := 2) 2 [0, 5, 18, 19] [(0, pt d 0), (5, .int .i64 1), (18, .agg #[.chan (some a0.ch), .chan (some a1.ch), .chan (some a2.ch)]), (19, .int .i64 3)] (by kernel_rfl) rfl ?_
      refine GL.round rfl ?_
      refine G.seqK fun K125 hK126 => ?_
      refine G.region ?_
      refine GL.run (j := 1) 1 [0, 5, 18, 19, 20] [(0, pt d 0), (5, .int .i64 1), (18, .agg #[.chan (some a0.ch), .chan (some a1.ch), .chan (some a2.ch)]), (19, .int .i64 3), (20, .bool false)] (by kernel_rfl) rfl ?_
      refine GL.k rfl hK126 (fun _ _ h => h) ?_
      refine G.seqK fun K127 hK128 => ?_
      refine G.no rfl ?_
      refine G.exitKN hK17 (fun _ _ h => h) ?_
      refine GN.seqK fun K129 hK130 => ?_
      refine G.region ?_
      refine GL.run (j := 5) 5 [0, 5, 46] [(0, pt d 0), (5, .int .i64 1), (46, pt d 4)] (by kernel_rfl) rfl ?_
      obtain ⟨w131, r132, H133⟩ := H103.st (P := Try.prog) (o := 4) (ty := 3) (v := .int .i64 0) 0 rfl (by kernel_rfl) (by simp) rfl
      have H133 : Hp w S [.blk d [.chan (some a0.ch), .chan (some a1.ch), .chan (some a2.ch), .int .i64 ((a0.p + 1 : Nat) : Int), .int .i64 0, .int .i64 (a2.p : Int), .bool cl] 52, .obj a0.ch (chO room a0.l cl a0.s a0.r), .obj a1.ch (chO room a1.l cl a1.s a1.r), .obj a2.ch (chO room a2.l cl a2.s a2.r), .bag Gg] w131 := H133
      refine GL.semU (j := 6) r132 [0, 5] [(0, pt d 0), (5, .int .i64 1)] (by kernel_rfl) rfl rfl rfl ?_
      refine GL.kN rfl hK130 (fun _ _ h => h) ?_
      refine GN.seqK fun K134 hK135 => ?_
      refine G.region ?_
      refine GL.run (j := 5) 5 [5, 51] [(5, .int .i64 1), (51, pt d 1)] (by kernel_rfl) rfl ?_
      refine GL.sem (j := 6) (H133.ld (o := 1) (ty := 49) (v := .chan (some a1.ch)) 0 rfl (by kernel_rfl) rfl) [5, 52] [(5, .int .i64 1), (52, .chan (some a1.ch))] (by kernel_rfl) (by kernel_rfl) rfl ?_
      refine GL.kN rfl hK135 (fun _ _ h => h) ?_
      refine GN.seqS fun K136 hK137 => ?_
      rw [hlk] at H133
      have H138 : Hp w S [.blk d [.chan (some a0.ch), .chan (some a1.ch), .chan (some a2.ch), .int .i64 ((a0.p + 1 : Nat) : Int), .int .i64 0, .int .i64 (a2.p : Int), .bool cl] 52, .obj a0.ch (chO room a0.l cl a0.s a0.r), .obj a1.ch (chO room (m_ :: t_) cl a1.s a1.r), .obj a2.ch (chO room a2.l cl a2.s a2.r), .bag Gg] w131 := H133
      refine GN.recvBuf (z := .slice none 0 0) H138 2 (l := t_) (m := m_) rfl rfl rfl rfl (zv _) (by kernel_rfl) [5, 53] [(5, .int .i64 1), (53, .tuple #[.int .i64 0, .bool true, .slice m_.A m_.b.length m_.c])] (by kernel_rfl) (fun w139 H140 => ?_)
      refine GL.run (j := 3) 2 [5, 53, 55] [(5, .int .i64 1), (53, .tuple #[.int .i64 0, .bool true, .slice m_.A m_.b.length m_.c]), (55, .bool true)] (by kernel_rfl) rfl ?_
      refine GL.k rfl hK137 (fun _ _ h => h) ?_
      refine G.block ?_
      refine G.yes rfl ?_
      refine G.seqK fun K141 hK142 => ?_
      refine G.region ?_
      refine GL.run (j := 2) 2 [5, 8] [(5, .int .i64 1), (8, .slice m_.A m_.b.length m_.c)] (by kernel_rfl) rfl ?_
      refine GL.k rfl hK142 (fun _ _ h => h) ?_
      refine G.seqK fun K143 hK144 => ?_
      refine G.region ?_
      refine GL.run (j := 5) 5 [2, 3, 4] [(2, .slice m_.A m_.b.length m_.c), (3, .int .i64 1), (4, .bool true)] (by kernel_rfl) rfl ?_
      refine GL.k rfl hK144 (fun _ _ h => h) ?_
      refine G.ret ?_
      intro F_ hF_ hM_
      refine hRet _ _ (bodyPost_3 rfl (RV.tmp rfl) (RV.tmp rfl) (RV.tmp rfl) ?_ F_ hF_ hM_)
      have HZ : Hp w S [.blk d [.chan (some a0.pass.ch), .chan (some (a1.took t_).ch), .chan (some a2.pass.ch), .int .i64 (a0.pass.p : Int), .int .i64 (((a1.took t_).p : Nat) : Int), .int .i64 (a2.pass.p : Int), .bool cl] 52, .obj a0.pass.ch (chO room a0.pass.l cl a0.pass.s a0.pass.r), .obj (a1.took t_).ch (chO room (a1.took t_).l cl (a1.took t_).s (a1.took t_).r), .obj a2.pass.ch (chO room a2.pass.l cl a2.pass.s a2.pass.r), .bag Gg] w139 := by rw [show a0.pass.p = a0.p + 1 by unfold Lane.pass; exact if_neg (by omega), show a2.pass.p = a2.p by unfold Lane.pass; exact if_pos (by omega)]; exact H140
      exact ⟨rfl, HZ⟩
    · skip
      have hb124f := of_decide_eq_true hb124
      refine G.yes rfl ?_
      refine G.tail 10 (by kernel_rfl) (by kernel_rfl) ?_
      have H145 := H103.drew
      generalize ({ w101 with drawn := w101.drawn + 1 } : World) = w146 at H145 ⊢
      refine GS.run (j := 5) 5 [0, 5, 18, 19, 31, 32, 35] [(0, pt d 0), (5, .int .i64 1), (18, .agg #[.chan (some a0.ch), .chan (some a1.ch), .chan (some a2.ch)]), (19, .int .i64 2), (31, pt d 0), (32, .int .i64 2), (35, pt d 5)] (by kernel_rfl) rfl rfl ?_
      refine GS.sem (j := 6) (H145.ld (o := 5) (ty := 3) (v := .int .i64 (a2.p : Int)) 0 rfl (by kernel_rfl) rfl) [0, 5, 18, 19, 31, 32, 36] [(0, pt d 0), (5, .int .i64 1), (18, .agg #[.chan (some a0.ch), .chan (some a1.ch), .chan (some a2.ch)]), (19, .int .i64 2), (31, pt d 0), (32, .int .i64 2), (36, .int .i64 (a2.p : Int))] (by kernel_rfl) (by kernel_rfl) rfl rfl ?_
      refine GS.run (j := 10) 4 [0, 5, 18, 19, 37, 40] [(0, pt d 0), (5, .int .i64 1), (18, .agg #[.chan (some a0.ch), .chan (some a1.ch), .chan (some a2.ch)]), (19, .int .i64 2), (37, .int .i64 (IntKind.i64.wrap ((a2.p : Int) + 1))), (40, pt d 5)] (by kernel_rfl) rfl rfl ?_
      have e147 : (IntKind.i64.wrap ((a2.p : Int) + 1)) = ((a2.p + 1 : Nat) : Int) := by rw [in_i64 (by omega)]; omega
      refine GS.eq (M' := [(0, pt d 0), (5, .int .i64 1), (18, .agg #[.chan (some a0.ch), .chan (some a1.ch), .chan (some a2.ch)]), (19, .int .i64 2), (37, .int .i64 ((a2.p + 1 : Nat) : Int)), (40, pt d 5)]) (by rw [e147]) ?_
      clear e147
      refine GS.tail rfl ?_
      obtain ⟨w148, r149, H150⟩ := H145.st (P := Try.prog) (o := 5) (ty := 3) (v := .int .i64 ((a2.p + 1 : Nat) : Int)) 0 rfl (by kernel_rfl) (by simp) rfl
      have H150 : Hp w S [.blk d [.chan (some a0.ch), .chan (some a1.ch), .chan (some a2.ch), .int .i64 ((a0.p + 1 : Nat) : Int), .int .i64 (a1.p : Int), .int .i64 ((a2.p + 1 : Nat) : Int), .bool cl] 52, .obj a0.ch (chO room a0.l cl a0.s a0.r), .obj a1.ch (chO room a1.l cl a1.s a1.r), .obj a2.ch (chO room a2.l cl a2.s a2.r), .bag Gg] w148 := H150
      refine GL.semU (j := 11) r149 [0, 5, 18, 19] [(0, pt d 0), (5, .int .i64 1), (18, .agg #[.chan (some a0.ch), .chan (some a1.ch), .chan (some a2.ch)]), (19, .int .i64 2)] (by kernel_rfl) rfl rfl rfl ?_
      refine GL.k rfl hK119 (fun _ _ h => h) ?_
      refine G.region ?_
      refine GL.run (j := 2) 2 [0, 5, 18, 19] [(0, pt d 0), (5, .int .i64 1), (18, .agg #[.chan (some a0.ch), .chan (some a1.ch), .chan (some a2.ch)]), (19, .int .i64 3)] (by kernel_rfl) rfl ?_
      refine GL.round rfl ?_
      refine G.seqK fun K151 hK152 => ?_
      refine G.region ?_
      refine GL.run (j := 1) 1 [0, 5, 18, 19, 20] [(0, pt d 0), (5, .int .i64 1), (18, .agg #[.chan (some a0.ch), .chan (some a1.ch), .chan (some a2.ch)]), (19, .int .i64 3), (20, .bool false)] (by kernel_rfl) rfl ?_
      refine GL.k rfl hK152 (fun _ _ h => h) ?_
      refine G.seqK fun K153 hK154 => ?_
      refine G.no rfl ?_
      refine G.exitKN hK17 (fun _ _ h => h) ?_
      refine GN.seqK fun K155 hK156 => ?_
      refine G.region ?_
      refine GL.run (j := 5) 5 [0, 5, 46] [(0, pt d 0), (5, .int .i64 1), (46, pt d 4)] (by kernel_rfl) rfl ?_
      obtain ⟨w157, r158, H159⟩ := H150.st (P := Try.prog) (o := 4) (ty := 3) (v := .int .i64 0) 0 rfl (by kernel_rfl) (by simp) rfl
      have H159 : Hp w S [.blk d [.chan (some a0.ch), .chan (some a1.ch), .chan (some a2.ch), .int .i64 ((a0.p + 1 : Nat) : Int), .int .i64 0, .int .i64 ((a2.p + 1 : Nat) : Int), .bool cl] 52, .obj a0.ch (chO room a0.l cl a0.s a0.r), .obj a1.ch (chO room a1.l cl a1.s a1.r), .obj a2.ch (chO room a2.l cl a2.s a2.r), .bag Gg] w157 := H159
      refine GL.semU (j := 6) r158 [0, 5] [(0, pt d 0), (5, .int .i64 1)] (by kernel_rfl) rfl rfl rfl ?_
      refine GL.kN rfl hK156 (fun _ _ h => h) ?_
      refine GN.seqK fun K160 hK161 => ?_
      refine G.region ?_
      refine GL.run (j := 5) 5 [5, 51] [(5, .int .i64 1), (51, pt d 1)] (by kernel_rfl) rfl ?_
      refine GL.sem (j := 6) (H159.ld (o := 1) (ty := 49) (v := .chan (some a1.ch)) 0 rfl (by kernel_rfl) rfl) [5, 52] [(5, .int .i64 1), (52, .chan (some a1.ch))] (by kernel_rfl) (by kernel_rfl) rfl ?_
      refine GL.kN rfl hK161 (fun _ _ h => h) ?_
      refine GN.seqS fun K162 hK163 => ?_
      rw [hlk] at H159
      have H164 : Hp w S [.blk d [.chan (some a0.ch), .chan (some a1.ch), .chan (some a2.ch), .int .i64 ((a0.p + 1 : Nat) : Int), .int .i64 0, .int .i64 ((a2.p + 1 : Nat) : Int), .bool cl] 52, .obj a0.ch (chO room a0.l cl a0.s a0.r), .obj a1.ch (chO room (m_ :: t_) cl a1.s a1.r), .obj a2.ch (chO room a2.l cl a2.s a2.r), .bag Gg] w157 := H159
      refine GN.recvBuf (z := .slice none 0 0) H164 2 (l := t_) (m := m_) rfl rfl rfl rfl (zv _) (by kernel_rfl) [5, 53] [(5, .int .i64 1), (53, .tuple #[.int .i64 0, .bool true, .slice m_.A m_.b.length m_.c])] (by kernel_rfl) (fun w165 H166 => ?_)
      refine GL.run (j := 3) 2 [5, 53, 55] [(5, .int .i64 1), (53, .tuple #[.int .i64 0, .bool true, .slice m_.A m_.b.length m_.c]), (55, .bool true)] (by kernel_rfl) rfl ?_
      refine GL.k rfl hK163 (fun _ _ h => h) ?_
      refine G.block ?_
      refine G.yes rfl ?_
      refine G.seqK fun K167 hK168 => ?_
      refine G.region ?_
      refine GL.run (j := 2) 2 [5, 8] [(5, .int .i64 1), (8, .slice m_.A m_.b.length m_.c)] (by kernel_rfl) rfl ?_
      refine GL.k rfl hK168 (fun _ _ h => h) ?_
      refine G.seqK fun K169 hK170 => ?_
      refine G.region ?_
      refine GL.run (j := 5) 5 [2, 3, 4] [(2, .slice m_.A m_.b.length m_.c), (3, .int .i64 1), (4, .bool true)] (by kernel_rfl) rfl ?_
      refine GL.k rfl hK170 (fun _ _ h => h) ?_
      refine G.ret ?_
      intro F_ hF_ hM_
      refine hRet _ _ (bodyPost_3 rfl (RV.tmp rfl) (RV.tmp rfl) (RV.tmp rfl) ?_ F_ hF_ hM_)
      have HZ : Hp w S [.blk d [.chan (some a0.pass.ch), .chan (some (a1.took t_).ch), .chan (some a2.pass.ch), .int .i64 (a0.pass.p : Int), .int .i64 (((a1.took t_).p : Nat) : Int), .int .i64 (a2.pass.p : Int), .bool cl] 52, .obj a0.pass.ch (chO room a0.pass.l cl a0.pass.s a0.pass.r), .obj (a1.took t_).ch (chO room (a1.took t_).l cl (a1.took t_).s (a1.took t_).r), .obj a2.pass.ch (chO room a2.pass.l cl a2.pass.s a2.pass.r), .bag Gg] w165 := by rw [show a0.pass.p = a0.p + 1 by unfold Lane.pass; exact if_neg (by omega), show a2.pass.p = a2.p + 1 by unfold Lane.pass; exact if_neg (by omega)]; exact H166
      exact ⟨rfl, HZ⟩
set_option maxHeartbeats 4000000 in
theorem TakeNone_calls (S : List Nat) (d room : Nat) (cl : Bool) (a0 a1 a2 : Lane) (Gg : List (Option Addr × Nat × Nat × TypeId × List Value)) (w : World) (h0 : Hp w S [.blk d [.chan (some a0.ch), .chan (some a1.ch), .chan (some a2.ch), .int .i64 (a0.p : Int), .int .i64 (a1.p : Int), .int .i64 (a2.p : Int), .bool cl] 52, .obj a0.ch (chO room a0.l cl a0.s a0.r), .obj a1.ch (chO room a1.l cl a1.s a1.r), .obj a2.ch (chO room a2.l cl a2.s a2.r), .bag Gg] w) (hz0 : a0.z) (hz1 : a1.z) (hz2 : a2.z) (htk : tkN a0 a1 a2 = 3) : Calls Try.prog 9 #[pt d 0] w fun e w' => e = .returned (.tuple #[.slice none 0 0, .int .i64 0, .bool false]) ∧ Hp w S [.blk d [.chan (some a0.ch), .chan (some a1.ch), .chan (some a2.ch), .int .i64 (a0.p : Int), .int .i64 (a1.p : Int), .int .i64 (a2.p : Int), .bool cl] 52, .obj a0.ch (chO room a0.l cl a0.s a0.r), .obj a1.ch (chO room a1.l cl a1.s a1.r), .obj a2.ch (chO room a2.l cl a2.s a2.r), .bag Gg] w' := by
  refine calls_GN (args := [pt d 0]) Try.func9 rfl Try.ntmps9 rfl ?_
  intro Q0 hRet hNor hPan
  have H := h0
  have H : Hp w S [.blk d [.chan (some a0.ch), .chan (some a1.ch), .chan (some a2.ch), .int .i64 (a0.p : Int), .int .i64 (a1.p : Int), .int .i64 (a2.p : Int), .bool cl] 52, .obj a0.ch (chO room a0.l cl a0.s a0.r), .obj a1.ch (chO room a1.l cl a1.s a1.r), .obj a2.ch (chO room a2.l cl a2.s a2.r), .bag Gg] w := H
  refine GN.seqK fun K1 hK2 => ?_
  refine G.region ?_
  refine GL.run (j := 3) 3 [0] [(0, pt d 0)] (by kernel_rfl) rfl ?_
  refine GL.kN rfl hK2 (fun _ _ h => h) ?_
  refine GN.seqK fun K3 hK4 => ?_
  refine G.seqK fun K5 hK6 => ?_
  refine G.region ?_
  refine GL.run (j := 2) 2 [0, 10] [(0, pt d 0), (10, .bool false)] (by kernel_rfl) rfl ?_
  refine GL.k rfl hK6 (fun _ _ h => h) ?_
  refine G.no rfl ?_
  refine G.skipKN hK4 (fun _ _ h => h) ?_
  refine GN.seqK fun K7 hK8 => ?_
  refine G.region ?_
  refine GL.run (j := 1) 1 [0, 11] [(0, pt d 0), (11, pt d 0)] (by kernel_rfl) rfl ?_
  refine GL.call (j := 2) ((by have h_ := next_calls (ids [.blk d [.chan (some a0.ch), .chan (some a1.ch), .chan (some a2.ch), .int .i64 (a0.p : Int), .int .i64 (a1.p : Int), .int .i64 (a2.p : Int), .bool cl] 52, .obj a0.ch (chO room a0.l cl a0.s a0.r), .obj a1.ch (chO room a1.l cl a1.s a1.r), .obj a2.ch (chO room a2.l cl a2.s a2.r), .bag Gg]) d room cl a0 a1 a2 Gg w (Hp.startL (A := [.blk d [.chan (some a0.ch), .chan (some a1.ch), .chan (some a2.ch), .int .i64 (a0.p : Int), .int .i64 (a1.p : Int), .int .i64 (a2.p : Int), .bool cl] 52, .obj a0.ch (chO room a0.l cl a0.s a0.r), .obj a1.ch (chO room a1.l cl a1.s a1.r), .obj a2.ch (chO room a2.l cl a2.s a2.r), .bag Gg]) (B := []) H) hz0 hz1 hz2; rw [show tkI a0 a1 a2 = -1 by unfold tkI; rw [htk]; rfl] at h_; exact h_)) (by kernel_rfl) rfl (fun e_ w9 hR => ?_)
  obtain ⟨rfl, H11⟩ := hR
  have H10 : Hp w S [.blk d [.chan (some a0.ch), .chan (some a1.ch), .chan (some a2.ch), .int .i64 (a0.p : Int), .int .i64 (a1.p : Int), .int .i64 (a2.p : Int), .bool cl] 52, .obj a0.ch (chO room a0.l cl a0.s a0.r), .obj a1.ch (chO room a1.l cl a1.s a1.r), .obj a2.ch (chO room a2.l cl a2.s a2.r), .bag Gg] w9 := Hp.callL (A := [.blk d [.chan (some a0.ch), .chan (some a1.ch), .chan (some a2.ch), .int .i64 (a0.p : Int), .int .i64 (a1.p : Int), .int .i64 (a2.p : Int), .bool cl] 52, .obj a0.ch (chO room a0.l cl a0.s a0.r), .obj a1.ch (chO room a1.l cl a1.s a1.r), .obj a2.ch (chO room a2.l cl a2.s a2.r), .bag Gg]) (B := []) H H11
  refine ⟨_, rfl, [0, 12], [(0, pt d 0), (12, .int .i64 (-1))], by kernel_rfl, ?_⟩
  refine GL.run (j := 3) 1 [0, 5] [(0, pt d 0), (5, .int .i64 (-1))] (by kernel_rfl) rfl ?_
  refine GL.kN rfl hK8 (fun _ _ h => h) ?_
  refine GN.seqK fun K12 hK13 => ?_
  refine G.seqK fun K14 hK15 => ?_
  refine G.region ?_
  refine GL.run (j := 2) 2 [0, 5, 14] [(0, pt d 0), (5, .int .i64 (-1)), (14, .bool true)] (by kernel_rfl) rfl ?_
  refine GL.k rfl hK15 (fun _ _ h => h) ?_
  refine G.yes rfl ?_
  refine G.seqK fun K16 hK17 => ?_
  refine G.region ?_
  refine GL.run (j := 3) 3 [2, 3, 4] [(2, .slice none 0 0), (3, .int .i64 0), (4, .bool false)] (by kernel_rfl) rfl ?_
  refine GL.k rfl hK17 (fun _ _ h => h) ?_
  refine G.ret ?_
  intro F_ hF_ hM_
  refine hRet _ _ (bodyPost_3 rfl (RV.tmp rfl) (RV.tmp rfl) (RV.tmp rfl) ?_ F_ hF_ hM_)
  exact ⟨rfl, H10⟩
end Go.Proofs.Ythcdelpdgkoioaa
set_option maxRecDepth 100000
namespace Go.Proofs.Ythcdelpdgkoioaa
open Go.RowKit
def qs (t p : Nat) : List (List UInt8) := (List.range' t (p - t)).map fun i => [UInt8.ofNat i]
def LQ (a : Lane) (t p : Nat) : Prop := a.l.map Msg.b = qs t p ∧ t ≤ p
def W3 (i : Nat) (x y z : Lane) : Prop := x.l.length ≠ 0 ∧ x.p = i ∧ i ≤ 6 ∧ (i = 5 → y.p = 0 ∨ z.p = 0) ∧ (i = 6 → y.p ≤ 1 ∧ z.p ≤ 1)
section
variable {a a0 a1 a2 : Lane} {t p i k : Nat} {r0 r1 r2 : List Msg} {m : Msg}
theorem LQ.len (h : LQ a t p) : a.l.length = p - t := by
  have := congrArg List.length h.1
  simpa [qs] using this
theorem LQ.put (h : LQ a t p) (hm : m.b = [UInt8.ofNat p]) : LQ (a.put m) t (p + 1) := by
  refine ⟨?_, Nat.le_succ_of_le h.2⟩
  have e : p + 1 - t = (p - t) + 1 := by have := h.2; omega
  show (a.l ++ [m]).map Msg.b = _
  rw [List.map_append, h.1, qs, qs, e, List.range'_concat, List.map_append, List.map_cons, List.map_nil, hm, List.map_cons, List.map_nil]
  have : t + 1 * (p - t) = p := by have := h.2; omega
  rw [this]
theorem LQ.head (h : LQ a t p) (hl : a.l.length ≠ 0) : ∃ mA mc r, a.l = Msg.mk mA [UInt8.ofNat t] mc :: r ∧ t < p ∧ LQ (a.took r) (t + 1) p := by
  have hlen := h.len
  have e : p - t = (p - (t + 1)) + 1 := by omega
  cases hc : a.l with
  | nil => rw [hc] at hl; exact absurd rfl hl
  | cons m r =>
    have h1 := h.1
    rw [hc, qs, e, List.range'_succ, List.map_cons, List.map_cons] at h1
    injection h1 with h2 h3
    obtain ⟨mA, mb, mc⟩ := m
    cases h2
    exact ⟨mA, mc, r, rfl, by omega, h3, by omega⟩
theorem LQ.new (c : Nat) : LQ (Lane.new c) 0 0 := ⟨rfl, Nat.le_refl _⟩
theorem LQ.pass (h : LQ a t p) : LQ a.pass t p := h
theorem Lane.z.put (h : a.z) (m : Msg) : (a.put m).z := ⟨fun h0 => by simp [Lane.put] at h0, h.2⟩
theorem Lane.z.took (a : Lane) (r : List Msg) : (a.took r).z := ⟨fun _ => rfl, Nat.zero_le _⟩
theorem Lane.z.pass (h : a.z) (hp : a.p < 1000000) : a.pass.z := ⟨fun h0 => by
  unfold Lane.pass at h0 ⊢
  show (if a.l.length = 0 then a.p else a.p + 1) = 0
  rw [if_pos h0]
  exact h.1 h0, by
  show (if a.l.length = 0 then a.p else a.p + 1) ≤ 1000000
  split <;> omega⟩
theorem Lane.z.new (c : Nat) : (Lane.new c).z := ⟨fun _ => rfl, Nat.zero_le _⟩
theorem LnOk.new (c : Nat) (G : List (Option Addr × Nat × Nat × TypeId × List Value)) : LnOk G (Lane.new c) := fun m h => by simp [Lane.new] at h
theorem pass_p (a : Lane) : a.pass.p = if a.l.length = 0 then a.p else a.p + 1 := rfl
theorem pass_le (a : Lane) : a.pass.p ≤ a.p + 1 := by rw [pass_p]; split <;> omega
theorem W3.swap {x y z : Lane} (h : W3 i x y z) : W3 i x z y := ⟨h.1, h.2.1, h.2.2.1, fun e => (h.2.2.2.1 e).symm, fun e => (h.2.2.2.2 e).symm⟩
theorem W3.step {x y z : Lane} (h : W3 i x y z) (hA : 4 ≤ i → 4 ≤ y.p) : W3 (i + 1) x.pass (y.took r0) z.pass ∧ i < 6 := by
  obtain ⟨h1, h2, h3, h4, h5⟩ := h
  have hi : i < 6 := by
    refine Nat.lt_of_le_of_ne h3 fun e => ?_
    have a := (h5 e).1
    have b := hA (by omega)
    omega
  have hz := pass_le z
  refine ⟨⟨h1, ?_, hi, fun _ => .inl rfl, fun e => ⟨Nat.zero_le _, ?_⟩⟩, hi⟩
  · rw [pass_p, if_neg h1, h2]
  · rcases h4 (by omega) with e | e
    · have b := hA (by omega)
      omega
    · omega
theorem put_len (a : Lane) (m : Msg) : (a.put m).l.length = a.l.length + 1 := by simp [Lane.put]
end
set_option maxHeartbeats 4000000 in
theorem lives_calls (w : World) : Calls Try.prog 6 #[] w fun e w' => e = .returned (.bool true) ∧ Hp w [] [] w' := by
  refine calls_G (args := []) Try.func6 rfl Try.ntmps6 rfl ?_
  intro Q0 hRet hNor hPan
  have H := Hp.start w
  have H : Hp w [] [] w := H
  refine G.seqK fun K1 hK2 => ?_
  refine G.region ?_
  refine GL.run (j := 1) 1 [] [] (by kernel_rfl) rfl ?_
  refine GL.k rfl hK2 (fun _ _ h => h) ?_
  refine G.seqK fun K3 hK4 => ?_
  refine G.region ?_
  refine GL.call (j := 1) (New_calls 2 w (by omega) (by omega)) (by kernel_rfl) rfl (fun e_ w9 hR => ?_)
  obtain ⟨d5, c6, c7, c8, rfl, H11⟩ := hR
  have H10 : Hp w [] [.blk d5 [.chan (some (Lane.new c6).ch), .chan (some (Lane.new c7).ch), .chan (some (Lane.new c8).ch), .int .i64 (((Lane.new c6).p : Nat) : Int), .int .i64 (((Lane.new c7).p : Nat) : Int), .int .i64 (((Lane.new c8).p : Nat) : Int), .bool false] 52, .obj (Lane.new c6).ch (chO 2 (Lane.new c6).l false (Lane.new c6).s (Lane.new c6).r), .obj (Lane.new c7).ch (chO 2 (Lane.new c7).l false (Lane.new c7).s (Lane.new c7).r), .obj (Lane.new c8).ch (chO 2 (Lane.new c8).l false (Lane.new c8).s (Lane.new c8).r), .bag []] w9 := H.callNew H11
  refine ⟨_, rfl, [12], [(12, .tuple #[pt d5 0, .int .i64 0])], by kernel_rfl, ?_⟩
  refine GL.run (j := 6) 5 [1, 2] [(1, pt d5 0), (2, .int .i64 0)] (by kernel_rfl) rfl ?_
  refine GL.k rfl hK4 (fun _ _ h => h) ?_
  refine G.seqK fun K12 hK13 => ?_
  refine G.region ?_
  refine GL.run (j := 1) 1 [1, 2, 15] [(1, pt d5 0), (2, .int .i64 0), (15, pt d5 0)] (by kernel_rfl) rfl ?_
  obtain ⟨p14, w15, r16, H17⟩ := H10.made (P := Try.prog) (Instr.buildSlice 22 1 #[(0, .int .u8 97)]) (fun b_ => .slice (some ⟨b_, 0, none⟩) 1 1) [.int .u8 97] 5 (by kernel_rfl)
  have H17 : Hp w [] [.blk d5 [.chan (some (Lane.new c6).ch), .chan (some (Lane.new c7).ch), .chan (some (Lane.new c8).ch), .int .i64 (((Lane.new c6).p : Nat) : Int), .int .i64 (((Lane.new c7).p : Nat) : Int), .int .i64 (((Lane.new c8).p : Nat) : Int), .bool false] 52, .obj (Lane.new c6).ch (chO 2 (Lane.new c6).l false (Lane.new c6).s (Lane.new c6).r), .obj (Lane.new c7).ch (chO 2 (Lane.new c7).l false (Lane.new c7).s (Lane.new c7).r), .obj (Lane.new c8).ch (chO 2 (Lane.new c8).l false (Lane.new c8).s (Lane.new c8).r), .bag [], .blk p14 [.int .u8 97] 5] w15 := H17
  refine GL.sem (j := 2) (r16) [1, 2, 15, 16] [(1, pt d5 0), (2, .int .i64 0), (15, pt d5 0), (16, .slice (some ⟨p14, 0, none⟩) 1 1)] (by kernel_rfl) (by kernel_rfl) rfl ?_
  obtain ⟨w18, r19, H20⟩ := H17.mark (P := Try.prog) (o := 0) (T := 22) (n := 1) (c := 1) 5 rfl (by kernel_rfl)
  have H20 : Hp w [] [.blk d5 [.chan (some (Lane.new c6).ch), .chan (some (Lane.new c7).ch), .chan (some (Lane.new c8).ch), .int .i64 (((Lane.new c6).p : Nat) : Int), .int .i64 (((Lane.new c7).p : Nat) : Int), .int .i64 (((Lane.new c8).p : Nat) : Int), .bool false] 52, .obj (Lane.new c6).ch (chO 2 (Lane.new c6).l false (Lane.new c6).s (Lane.new c6).r), .obj (Lane.new c7).ch (chO 2 (Lane.new c7).l false (Lane.new c7).s (Lane.new c7).r), .obj (Lane.new c8).ch (chO 2 (Lane.new c8).l false (Lane.new c8).s (Lane.new c8).r), .bag [], .blk p14 [.int .u8 97] 5] w18 := H20
  refine GL.sem (j := 3) (r19) [1, 2, 15, 17] [(1, pt d5 0), (2, .int .i64 0), (15, pt d5 0), (17, .slice (some ⟨p14, 0, none⟩) 1 1)] (by kernel_rfl) (by kernel_rfl) rfl ?_
  refine GL.call (j := 4) (PutOk1_calls (ids [.blk d5 [.chan (some (Lane.new c6).ch), .chan (some (Lane.new c7).ch), .chan (some (Lane.new c8).ch), .int .i64 (((Lane.new c6).p : Nat) : Int), .int .i64 (((Lane.new c7).p : Nat) : Int), .int .i64 (((Lane.new c8).p : Nat) : Int), .bool false] 52, .obj (Lane.new c6).ch (chO 2 (Lane.new c6).l false (Lane.new c6).s (Lane.new c6).r), .obj (Lane.new c7).ch (chO 2 (Lane.new c7).l false (Lane.new c7).s (Lane.new c7).r), .obj (Lane.new c8).ch (chO 2 (Lane.new c8).l false (Lane.new c8).s (Lane.new c8).r), .bag []]) d5 2 (Lane.new c6) (Lane.new c7) (Lane.new c8) [] (some ⟨p14, 0, none⟩) ([97] : List UInt8) 1 w18 (Hp.startL (A := [.blk d5 [.chan (some (Lane.new c6).ch), .chan (some (Lane.new c7).ch), .chan (some (Lane.new c8).ch), .int .i64 (((Lane.new c6).p : Nat) : Int), .int .i64 (((Lane.new c7).p : Nat) : Int), .int .i64 (((Lane.new c8).p : Nat) : Int), .bool false] 52, .obj (Lane.new c6).ch (chO 2 (Lane.new c6).l false (Lane.new c6).s (Lane.new c6).r), .obj (Lane.new c7).ch (chO 2 (Lane.new c7).l false (Lane.new c7).s (Lane.new c7).r), .obj (Lane.new c8).ch (chO 2 (Lane.new c8).l false (Lane.new c8).s (Lane.new c8).r), .bag []]) (B := [.blk p14 [.int .u8 97] 5]) H20) (RdO.blk (A' := [.blk d5 [.chan (some (Lane.new c6).ch), .chan (some (Lane.new c7).ch), .chan (some (Lane.new c8).ch), .int .i64 (((Lane.new c6).p : Nat) : Int), .int .i64 (((Lane.new c7).p : Nat) : Int), .int .i64 (((Lane.new c8).p : Nat) : Int), .bool false] 52, .obj (Lane.new c6).ch (chO 2 (Lane.new c6).l false (Lane.new c6).s (Lane.new c6).r), .obj (Lane.new c7).ch (chO 2 (Lane.new c7).l false (Lane.new c7).s (Lane.new c7).r), .obj (Lane.new c8).ch (chO 2 (Lane.new c8).l false (Lane.new c8).s (Lane.new c8).r), .bag []]) (B' := [.blk p14 [.int .u8 97] 5]) H20 0 1 rfl rfl) (by show (0 : Nat) < 2; decide) (by decide)) (by kernel_rfl) rfl (fun e_ w23 hR => ?_)
  obtain ⟨A21, c22, rfl, H25⟩ := hR
  have H24 : Hp w [] [.blk d5 [.chan (some (Lane.new c6).ch), .chan (some ((Lane.new c7).put (Msg.mk A21 ([97] : List UInt8) c22)).ch), .chan (some (Lane.new c8).ch), .int .i64 (((Lane.new c6).p : Nat) : Int), .int .i64 ((((Lane.new c7).put (Msg.mk A21 ([97] : List UInt8) c22)).p : Nat) : Int), .int .i64 (((Lane.new c8).p : Nat) : Int), .bool false] 52, .obj (Lane.new c6).ch (chO 2 (Lane.new c6).l false (Lane.new c6).s (Lane.new c6).r), .obj ((Lane.new c7).put (Msg.mk A21 ([97] : List UInt8) c22)).ch (chO 2 ((Lane.new c7).put (Msg.mk A21 ([97] : List UInt8) c22)).l false ((Lane.new c7).put (Msg.mk A21 ([97] : List UInt8) c22)).s ((Lane.new c7).put (Msg.mk A21 ([97] : List UInt8) c22)).r), .obj (Lane.new c8).ch (chO 2 (Lane.new c8).l false (Lane.new c8).s (Lane.new c8).r), .bag ((A21, ([97] : List UInt8).length, c22, 5, by8 ([97] : List UInt8)) :: []), .blk p14 [.int .u8 97] 5] w23 := Hp.callL (A := [.blk d5 [.chan (some (Lane.new c6).ch), .chan (some (Lane.new c7).ch), .chan (some (Lane.new c8).ch), .int .i64 (((Lane.new c6).p : Nat) : Int), .int .i64 (((Lane.new c7).p : Nat) : Int), .int .i64 (((Lane.new c8).p : Nat) : Int), .bool false] 52, .obj (Lane.new c6).ch (chO 2 (Lane.new c6).l false (Lane.new c6).s (Lane.new c6).r), .obj (Lane.new c7).ch (chO 2 (Lane.new c7).l false (Lane.new c7).s (Lane.new c7).r), .obj (Lane.new c8).ch (chO 2 (Lane.new c8).l false (Lane.new c8).s (Lane.new c8).r), .bag []]) (B := [.blk p14 [.int .u8 97] 5]) H20 H25
  refine ⟨_, rfl, [1, 2, 18], [(1, pt d5 0), (2, .int .i64 0), (18, .int .i64 0)], by kernel_rfl, ?_⟩
  refine GL.run (j := 5) 1 [1, 2, 3] [(1, pt d5 0), (2, .int .i64 0), (3, .int .i64 0)] (by kernel_rfl) rfl ?_
  refine GL.k rfl hK13 (fun _ _ h => h) ?_
  refine G.seqK fun K26 hK27 => ?_
  refine G.region ?_
  refine GL.run (j := 1) 1 [1, 2, 3, 19] [(1, pt d5 0), (2, .int .i64 0), (3, .int .i64 0), (19, pt d5 0)] (by kernel_rfl) rfl ?_
  obtain ⟨p28, w29, r30, H31⟩ := H24.made (P := Try.prog) (Instr.buildSlice 22 1 #[(0, .int .u8 98)]) (fun b_ => .slice (some ⟨b_, 0, none⟩) 1 1) [.int .u8 98] 5 (by kernel_rfl)
  have H31 : Hp w [] [.blk d5 [.chan (some (Lane.new c6).ch), .chan (some ((Lane.new c7).put (Msg.mk A21 ([97] : List UInt8) c22)).ch), .chan (some (Lane.new c8).ch), .int .i64 (((Lane.new c6).p : Nat) : Int), .int .i64 ((((Lane.new c7).put (Msg.mk A21 ([97] : List UInt8) c22)).p : Nat) : Int), .int .i64 (((Lane.new c8).p : Nat) : Int), .bool false] 52, .obj (Lane.new c6).ch (chO 2 (Lane.new c6).l false (Lane.new c6).s (Lane.new c6).r), .obj ((Lane.new c7).put (Msg.mk A21 ([97] : List UInt8) c22)).ch (chO 2 ((Lane.new c7).put (Msg.mk A21 ([97] : List UInt8) c22)).l false ((Lane.new c7).put (Msg.mk A21 ([97] : List UInt8) c22)).s ((Lane.new c7).put (Msg.mk A21 ([97] : List UInt8) c22)).r), .obj (Lane.new c8).ch (chO 2 (Lane.new c8).l false (Lane.new c8).s (Lane.new c8).r), .bag ((A21, ([97] : List UInt8).length, c22, 5, by8 ([97] : List UInt8)) :: []), .blk p14 [.int .u8 97] 5, .blk p28 [.int .u8 98] 5] w29 := H31
  refine GL.sem (j := 2) (r30) [1, 2, 3, 19, 20] [(1, pt d5 0), (2, .int .i64 0), (3, .int .i64 0), (19, pt d5 0), (20, .slice (some ⟨p28, 0, none⟩) 1 1)] (by kernel_rfl) (by kernel_rfl) rfl ?_
  obtain ⟨w32, r33, H34⟩ := H31.mark (P := Try.prog) (o := 0) (T := 22) (n := 1) (c := 1) 6 rfl (by kernel_rfl)
  have H34 : Hp w [] [.blk d5 [.chan (some (Lane.new c6).ch), .chan (some ((Lane.new c7).put (Msg.mk A21 ([97] : List UInt8) c22)).ch), .chan (some (Lane.new c8).ch), .int .i64 (((Lane.new c6).p : Nat) : Int), .int .i64 ((((Lane.new c7).put (Msg.mk A21 ([97] : List UInt8) c22)).p : Nat) : Int), .int .i64 (((Lane.new c8).p : Nat) : Int), .bool false] 52, .obj (Lane.new c6).ch (chO 2 (Lane.new c6).l false (Lane.new c6).s (Lane.new c6).r), .obj ((Lane.new c7).put (Msg.mk A21 ([97] : List UInt8) c22)).ch (chO 2 ((Lane.new c7).put (Msg.mk A21 ([97] : List UInt8) c22)).l false ((Lane.new c7).put (Msg.mk A21 ([97] : List UInt8) c22)).s ((Lane.new c7).put (Msg.mk A21 ([97] : List UInt8) c22)).r), .obj (Lane.new c8).ch (chO 2 (Lane.new c8).l false (Lane.new c8).s (Lane.new c8).r), .bag ((A21, ([97] : List UInt8).length, c22, 5, by8 ([97] : List UInt8)) :: []), .blk p14 [.int .u8 97] 5, .blk p28 [.int .u8 98] 5] w32 := H34
  refine GL.sem (j := 3) (r33) [1, 2, 3, 19, 21] [(1, pt d5 0), (2, .int .i64 0), (3, .int .i64 0), (19, pt d5 0), (21, .slice (some ⟨p28, 0, none⟩) 1 1)] (by kernel_rfl) (by kernel_rfl) rfl ?_
  refine GL.call (j := 4) (PutOk0_calls (ids [.blk d5 [.chan (some (Lane.new c6).ch), .chan (some ((Lane.new c7).put (Msg.mk A21 ([97] : List UInt8) c22)).ch), .chan (some (Lane.new c8).ch), .int .i64 (((Lane.new c6).p : Nat) : Int), .int .i64 ((((Lane.new c7).put (Msg.mk A21 ([97] : List UInt8) c22)).p : Nat) : Int), .int .i64 (((Lane.new c8).p : Nat) : Int), .bool false] 52, .obj (Lane.new c6).ch (chO 2 (Lane.new c6).l false (Lane.new c6).s (Lane.new c6).r), .obj ((Lane.new c7).put (Msg.mk A21 ([97] : List UInt8) c22)).ch (chO 2 ((Lane.new c7).put (Msg.mk A21 ([97] : List UInt8) c22)).l false ((Lane.new c7).put (Msg.mk A21 ([97] : List UInt8) c22)).s ((Lane.new c7).put (Msg.mk A21 ([97] : List UInt8) c22)).r), .obj (Lane.new c8).ch (chO 2 (Lane.new c8).l false (Lane.new c8).s (Lane.new c8).r), .bag ((A21, ([97] : List UInt8).length, c22, 5, by8 ([97] : List UInt8)) :: [])]) d5 2 (Lane.new c6) ((Lane.new c7).put (Msg.mk A21 ([97] : List UInt8) c22)) (Lane.new c8) ((A21, ([97] : List UInt8).length, c22, 5, by8 ([97] : List UInt8)) :: []) (some ⟨p28, 0, none⟩) ([98] : List UInt8) 1 w32 (Hp.startL (A := [.blk d5 [.chan (some (Lane.new c6).ch), .chan (some ((Lane.new c7).put (Msg.mk A21 ([97] : List UInt8) c22)).ch), .chan (some (Lane.new c8).ch), .int .i64 (((Lane.new c6).p : Nat) : Int), .int .i64 ((((Lane.new c7).put (Msg.mk A21 ([97] : List UInt8) c22)).p : Nat) : Int), .int .i64 (((Lane.new c8).p : Nat) : Int), .bool false] 52, .obj (Lane.new c6).ch (chO 2 (Lane.new c6).l false (Lane.new c6).s (Lane.new c6).r), .obj ((Lane.new c7).put (Msg.mk A21 ([97] : List UInt8) c22)).ch (chO 2 ((Lane.new c7).put (Msg.mk A21 ([97] : List UInt8) c22)).l false ((Lane.new c7).put (Msg.mk A21 ([97] : List UInt8) c22)).s ((Lane.new c7).put (Msg.mk A21 ([97] : List UInt8) c22)).r), .obj (Lane.new c8).ch (chO 2 (Lane.new c8).l false (Lane.new c8).s (Lane.new c8).r), .bag ((A21, ([97] : List UInt8).length, c22, 5, by8 ([97] : List UInt8)) :: [])]) (B := [.blk p14 [.int .u8 97] 5, .blk p28 [.int .u8 98] 5]) H34) (RdO.blk (A' := [.blk d5 [.chan (some (Lane.new c6).ch), .chan (some ((Lane.new c7).put (Msg.mk A21 ([97] : List UInt8) c22)).ch), .chan (some (Lane.new c8).ch), .int .i64 (((Lane.new c6).p : Nat) : Int), .int .i64 ((((Lane.new c7).put (Msg.mk A21 ([97] : List UInt8) c22)).p : Nat) : Int), .int .i64 (((Lane.new c8).p : Nat) : Int), .bool false] 52, .obj (Lane.new c6).ch (chO 2 (Lane.new c6).l false (Lane.new c6).s (Lane.new c6).r), .obj ((Lane.new c7).put (Msg.mk A21 ([97] : List UInt8) c22)).ch (chO 2 ((Lane.new c7).put (Msg.mk A21 ([97] : List UInt8) c22)).l false ((Lane.new c7).put (Msg.mk A21 ([97] : List UInt8) c22)).s ((Lane.new c7).put (Msg.mk A21 ([97] : List UInt8) c22)).r), .obj (Lane.new c8).ch (chO 2 (Lane.new c8).l false (Lane.new c8).s (Lane.new c8).r), .bag ((A21, ([97] : List UInt8).length, c22, 5, by8 ([97] : List UInt8)) :: [])]) (B' := [.blk p14 [.int .u8 97] 5, .blk p28 [.int .u8 98] 5]) H34 1 1 rfl rfl) (by show (0 : Nat) < 2; decide) (by decide)) (by kernel_rfl) rfl (fun e_ w37 hR => ?_)
  obtain ⟨A35, c36, rfl, H39⟩ := hR
  have H38 : Hp w [] [.blk d5 [.chan (some ((Lane.new c6).put (Msg.mk A35 ([98] : List UInt8) c36)).ch), .chan (some ((Lane.new c7).put (Msg.mk A21 ([97] : List UInt8) c22)).ch), .chan (some (Lane.new c8).ch), .int .i64 ((((Lane.new c6).put (Msg.mk A35 ([98] : List UInt8) c36)).p : Nat) : Int), .int .i64 ((((Lane.new c7).put (Msg.mk A21 ([97] : List UInt8) c22)).p : Nat) : Int), .int .i64 (((Lane.new c8).p : Nat) : Int), .bool false] 52, .obj ((Lane.new c6).put (Msg.mk A35 ([98] : List UInt8) c36)).ch (chO 2 ((Lane.new c6).put (Msg.mk A35 ([98] : List UInt8) c36)).l false ((Lane.new c6).put (Msg.mk A35 ([98] : List UInt8) c36)).s ((Lane.new c6).put (Msg.mk A35 ([98] : List UInt8) c36)).r), .obj ((Lane.new c7).put (Msg.mk A21 ([97] : List UInt8) c22)).ch (chO 2 ((Lane.new c7).put (Msg.mk A21 ([97] : List UInt8) c22)).l false ((Lane.new c7).put (Msg.mk A21 ([97] : List UInt8) c22)).s ((Lane.new c7).put (Msg.mk A21 ([97] : List UInt8) c22)).r), .obj (Lane.new c8).ch (chO 2 (Lane.new c8).l false (Lane.new c8).s (Lane.new c8).r), .bag ((A35, ([98] : List UInt8).length, c36, 5, by8 ([98] : List UInt8)) :: ((A21, ([97] : List UInt8).length, c22, 5, by8 ([97] : List UInt8)) :: [])), .blk p14 [.int .u8 97] 5, .blk p28 [.int .u8 98] 5] w37 := Hp.callL (A := [.blk d5 [.chan (some (Lane.new c6).ch), .chan (some ((Lane.new c7).put (Msg.mk A21 ([97] : List UInt8) c22)).ch), .chan (some (Lane.new c8).ch), .int .i64 (((Lane.new c6).p : Nat) : Int), .int .i64 ((((Lane.new c7).put (Msg.mk A21 ([97] : List UInt8) c22)).p : Nat) : Int), .int .i64 (((Lane.new c8).p : Nat) : Int), .bool false] 52, .obj (Lane.new c6).ch (chO 2 (Lane.new c6).l false (Lane.new c6).s (Lane.new c6).r), .obj ((Lane.new c7).put (Msg.mk A21 ([97] : List UInt8) c22)).ch (chO 2 ((Lane.new c7).put (Msg.mk A21 ([97] : List UInt8) c22)).l false ((Lane.new c7).put (Msg.mk A21 ([97] : List UInt8) c22)).s ((Lane.new c7).put (Msg.mk A21 ([97] : List UInt8) c22)).r), .obj (Lane.new c8).ch (chO 2 (Lane.new c8).l false (Lane.new c8).s (Lane.new c8).r), .bag ((A21, ([97] : List UInt8).length, c22, 5, by8 ([97] : List UInt8)) :: [])]) (B := [.blk p14 [.int .u8 97] 5, .blk p28 [.int .u8 98] 5]) H34 H39
  refine ⟨_, rfl, [1, 2, 3, 22], [(1, pt d5 0), (2, .int .i64 0), (3, .int .i64 0), (22, .int .i64 0)], by kernel_rfl, ?_⟩
  refine GL.run (j := 5) 1 [1, 2, 3, 4] [(1, pt d5 0), (2, .int .i64 0), (3, .int .i64 0), (4, .int .i64 0)] (by kernel_rfl) rfl ?_
  refine GL.k rfl hK27 (fun _ _ h => h) ?_
  refine G.seqK fun K40 hK41 => ?_
  refine G.region ?_
  have htk42 : tkN ((Lane.new c6).put (Msg.mk A35 ([98] : List UInt8) c36)) ((Lane.new c7).put (Msg.mk A21 ([97] : List UInt8) c22)) (Lane.new c8) = 0 := by rfl
  have hlk43 : ((Lane.new c6).put (Msg.mk A35 ([98] : List UInt8) c36)).l = (Msg.mk A35 ([98] : List UInt8) c36) :: [] := rfl
  have := 0
  · skip
    refine GL.run (j := 1) 1 [1, 2, 3, 4, 24] [(1, pt d5 0), (2, .int .i64 0), (3, .int .i64 0), (4, .int .i64 0), (24, pt d5 0)] (by kernel_rfl) rfl ?_
    have hmhlk43 := (LnOk.took (G := ((A35, ([98] : List UInt8).length, c36, 5, by8 ([98] : List UInt8)) :: ((A21, ([97] : List UInt8).length, c22, 5, by8 ([97] : List UInt8)) :: []))) (a := ((Lane.new c6).put (Msg.mk A35 ([98] : List UInt8) c36))) (LnOk.put (LnOk.more (LnOk.new _ _) _) (Msg.mk A35 ([98] : List UInt8) c36)) hlk43).2
    refine GL.call (j := 2) (Take0_calls (ids [.blk d5 [.chan (some ((Lane.new c6).put (Msg.mk A35 ([98] : List UInt8) c36)).ch), .chan (some ((Lane.new c7).put (Msg.mk A21 ([97] : List UInt8) c22)).ch), .chan (some (Lane.new c8).ch), .int .i64 ((((Lane.new c6).put (Msg.mk A35 ([98] : List UInt8) c36)).p : Nat) : Int), .int .i64 ((((Lane.new c7).put (Msg.mk A21 ([97] : List UInt8) c22)).p : Nat) : Int), .int .i64 (((Lane.new c8).p : Nat) : Int), .bool false] 52, .obj ((Lane.new c6).put (Msg.mk A35 ([98] : List UInt8) c36)).ch (chO 2 ((Lane.new c6).put (Msg.mk A35 ([98] : List UInt8) c36)).l false ((Lane.new c6).put (Msg.mk A35 ([98] : List UInt8) c36)).s ((Lane.new c6).put (Msg.mk A35 ([98] : List UInt8) c36)).r), .obj ((Lane.new c7).put (Msg.mk A21 ([97] : List UInt8) c22)).ch (chO 2 ((Lane.new c7).put (Msg.mk A21 ([97] : List UInt8) c22)).l false ((Lane.new c7).put (Msg.mk A21 ([97] : List UInt8) c22)).s ((Lane.new c7).put (Msg.mk A21 ([97] : List UInt8) c22)).r), .obj (Lane.new c8).ch (chO 2 (Lane.new c8).l false (Lane.new c8).s (Lane.new c8).r), .bag ((A35, ([98] : List UInt8).length, c36, 5, by8 ([98] : List UInt8)) :: ((A21, ([97] : List UInt8).length, c22, 5, by8 ([97] : List UInt8)) :: []))]) d5 2 false ((Lane.new c6).put (Msg.mk A35 ([98] : List UInt8) c36)) ((Lane.new c7).put (Msg.mk A21 ([97] : List UInt8) c22)) (Lane.new c8) ((A35, ([98] : List UInt8).length, c36, 5, by8 ([98] : List UInt8)) :: ((A21, ([97] : List UInt8).length, c22, 5, by8 ([97] : List UInt8)) :: [])) (Msg.mk A35 ([98] : List UInt8) c36) [] w37 (Hp.startL (A := [.blk d5 [.chan (some ((Lane.new c6).put (Msg.mk A35 ([98] : List UInt8) c36)).ch), .chan (some ((Lane.new c7).put (Msg.mk A21 ([97] : List UInt8) c22)).ch), .chan (some (Lane.new c8).ch), .int .i64 ((((Lane.new c6).put (Msg.mk A35 ([98] : List UInt8) c36)).p : Nat) : Int), .int .i64 ((((Lane.new c7).put (Msg.mk A21 ([97] : List UInt8) c22)).p : Nat) : Int), .int .i64 (((Lane.new c8).p : Nat) : Int), .bool false] 52, .obj ((Lane.new c6).put (Msg.mk A35 ([98] : List UInt8) c36)).ch (chO 2 ((Lane.new c6).put (Msg.mk A35 ([98] : List UInt8) c36)).l false ((Lane.new c6).put (Msg.mk A35 ([98] : List UInt8) c36)).s ((Lane.new c6).put (Msg.mk A35 ([98] : List UInt8) c36)).r), .obj ((Lane.new c7).put (Msg.mk A21 ([97] : List UInt8) c22)).ch (chO 2 ((Lane.new c7).put (Msg.mk A21 ([97] : List UInt8) c22)).l false ((Lane.new c7).put (Msg.mk A21 ([97] : List UInt8) c22)).s ((Lane.new c7).put (Msg.mk A21 ([97] : List UInt8) c22)).r), .obj (Lane.new c8).ch (chO 2 (Lane.new c8).l false (Lane.new c8).s (Lane.new c8).r), .bag ((A35, ([98] : List UInt8).length, c36, 5, by8 ([98] : List UInt8)) :: ((A21, ([97] : List UInt8).length, c22, 5, by8 ([97] : List UInt8)) :: []))]) (B := [.blk p14 [.int .u8 97] 5, .blk p28 [.int .u8 98] 5]) H38) (Lane.z.put (Lane.z.new _) (Msg.mk A35 ([98] : List UInt8) c36)) (Lane.z.put (Lane.z.new _) (Msg.mk A21 ([97] : List UInt8) c22)) (Lane.z.new _) htk42 hlk43) (by kernel_rfl) rfl (fun e_ w44 hR => ?_)
    obtain ⟨rfl, H46⟩ := hR
    have H45 : Hp w [] [.blk d5 [.chan (some (((Lane.new c6).put (Msg.mk A35 ([98] : List UInt8) c36)).took []).ch), .chan (some ((Lane.new c7).put (Msg.mk A21 ([97] : List UInt8) c22)).pass.ch), .chan (some (Lane.new c8).pass.ch), .int .i64 (((((Lane.new c6).put (Msg.mk A35 ([98] : List UInt8) c36)).took []).p : Nat) : Int), .int .i64 ((((Lane.new c7).put (Msg.mk A21 ([97] : List UInt8) c22)).pass.p : Nat) : Int), .int .i64 (((Lane.new c8).pass.p : Nat) : Int), .bool false] 52, .obj (((Lane.new c6).put (Msg.mk A35 ([98] : List UInt8) c36)).took []).ch (chO 2 (((Lane.new c6).put (Msg.mk A35 ([98] : List UInt8) c36)).took []).l false (((Lane.new c6).put (Msg.mk A35 ([98] : List UInt8) c36)).took []).s (((Lane.new c6).put (Msg.mk A35 ([98] : List UInt8) c36)).took []).r), .obj ((Lane.new c7).put (Msg.mk A21 ([97] : List UInt8) c22)).pass.ch (chO 2 ((Lane.new c7).put (Msg.mk A21 ([97] : List UInt8) c22)).pass.l false ((Lane.new c7).put (Msg.mk A21 ([97] : List UInt8) c22)).pass.s ((Lane.new c7).put (Msg.mk A21 ([97] : List UInt8) c22)).pass.r), .obj (Lane.new c8).pass.ch (chO 2 (Lane.new c8).pass.l false (Lane.new c8).pass.s (Lane.new c8).pass.r), .bag ((A35, ([98] : List UInt8).length, c36, 5, by8 ([98] : List UInt8)) :: ((A21, ([97] : List UInt8).length, c22, 5, by8 ([97] : List UInt8)) :: [])), .blk p14 [.int .u8 97] 5, .blk p28 [.int .u8 98] 5] w44 := Hp.callL (A := [.blk d5 [.chan (some ((Lane.new c6).put (Msg.mk A35 ([98] : List UInt8) c36)).ch), .chan (some ((Lane.new c7).put (Msg.mk A21 ([97] : List UInt8) c22)).ch), .chan (some (Lane.new c8).ch), .int .i64 ((((Lane.new c6).put (Msg.mk A35 ([98] : List UInt8) c36)).p : Nat) : Int), .int .i64 ((((Lane.new c7).put (Msg.mk A21 ([97] : List UInt8) c22)).p : Nat) : Int), .int .i64 (((Lane.new c8).p : Nat) : Int), .bool false] 52, .obj ((Lane.new c6).put (Msg.mk A35 ([98] : List UInt8) c36)).ch (chO 2 ((Lane.new c6).put (Msg.mk A35 ([98] : List UInt8) c36)).l false ((Lane.new c6).put (Msg.mk A35 ([98] : List UInt8) c36)).s ((Lane.new c6).put (Msg.mk A35 ([98] : List UInt8) c36)).r), .obj ((Lane.new c7).put (Msg.mk A21 ([97] : List UInt8) c22)).ch (chO 2 ((Lane.new c7).put (Msg.mk A21 ([97] : List UInt8) c22)).l false ((Lane.new c7).put (Msg.mk A21 ([97] : List UInt8) c22)).s ((Lane.new c7).put (Msg.mk A21 ([97] : List UInt8) c22)).r), .obj (Lane.new c8).ch (chO 2 (Lane.new c8).l false (Lane.new c8).s (Lane.new c8).r), .bag ((A35, ([98] : List UInt8).length, c36, 5, by8 ([98] : List UInt8)) :: ((A21, ([97] : List UInt8).length, c22, 5, by8 ([97] : List UInt8)) :: []))]) (B := [.blk p14 [.int .u8 97] 5, .blk p28 [.int .u8 98] 5]) H38 H46
    refine ⟨_, rfl, [1, 2, 3, 4, 25], [(1, pt d5 0), (2, .int .i64 0), (3, .int .i64 0), (4, .int .i64 0), (25, .tuple #[.slice A35 1 c36, .int .i64 0, .bool true])], by kernel_rfl, ?_⟩
    refine GL.run (j := 9) 7 [1, 2, 3, 4, 5, 6, 7] [(1, pt d5 0), (2, .int .i64 0), (3, .int .i64 0), (4, .int .i64 0), (5, .slice A35 1 c36), (6, .int .i64 0), (7, .bool true)] (by kernel_rfl) rfl ?_
    refine GL.k rfl hK41 (fun _ _ h => h) ?_
    refine G.seqK fun K47 hK48 => ?_
    refine G.region ?_
    have htk49 : tkN (((Lane.new c6).put (Msg.mk A35 ([98] : List UInt8) c36)).took []) ((Lane.new c7).put (Msg.mk A21 ([97] : List UInt8) c22)).pass (Lane.new c8).pass = 1 := by rfl
    have hlk50 : ((Lane.new c7).put (Msg.mk A21 ([97] : List UInt8) c22)).pass.l = (Msg.mk A21 ([97] : List UInt8) c22) :: [] := rfl
    have := 0
    · skip
      refine GL.run (j := 1) 1 [2, 3, 4, 5, 6, 7, 30] [(2, .int .i64 0), (3, .int .i64 0), (4, .int .i64 0), (5, .slice A35 1 c36), (6, .int .i64 0), (7, .bool true), (30, pt d5 0)] (by kernel_rfl) rfl ?_
      have hmhlk50 := (LnOk.took (G := ((A35, ([98] : List UInt8).length, c36, 5, by8 ([98] : List UInt8)) :: ((A21, ([97] : List UInt8).length, c22, 5, by8 ([97] : List UInt8)) :: []))) (a := ((Lane.new c7).put (Msg.mk A21 ([97] : List UInt8) c22)).pass) (LnOk.more (LnOk.put (LnOk.new _ _) (Msg.mk A21 ([97] : List UInt8) c22)) _) hlk50).2
      refine GL.call (j := 2) (Take1_calls (ids [.blk d5 [.chan (some (((Lane.new c6).put (Msg.mk A35 ([98] : List UInt8) c36)).took []).ch), .chan (some ((Lane.new c7).put (Msg.mk A21 ([97] : List UInt8) c22)).pass.ch), .chan (some (Lane.new c8).pass.ch), .int .i64 (((((Lane.new c6).put (Msg.mk A35 ([98] : List UInt8) c36)).took []).p : Nat) : Int), .int .i64 ((((Lane.new c7).put (Msg.mk A21 ([97] : List UInt8) c22)).pass.p : Nat) : Int), .int .i64 (((Lane.new c8).pass.p : Nat) : Int), .bool false] 52, .obj (((Lane.new c6).put (Msg.mk A35 ([98] : List UInt8) c36)).took []).ch (chO 2 (((Lane.new c6).put (Msg.mk A35 ([98] : List UInt8) c36)).took []).l false (((Lane.new c6).put (Msg.mk A35 ([98] : List UInt8) c36)).took []).s (((Lane.new c6).put (Msg.mk A35 ([98] : List UInt8) c36)).took []).r), .obj ((Lane.new c7).put (Msg.mk A21 ([97] : List UInt8) c22)).pass.ch (chO 2 ((Lane.new c7).put (Msg.mk A21 ([97] : List UInt8) c22)).pass.l false ((Lane.new c7).put (Msg.mk A21 ([97] : List UInt8) c22)).pass.s ((Lane.new c7).put (Msg.mk A21 ([97] : List UInt8) c22)).pass.r), .obj (Lane.new c8).pass.ch (chO 2 (Lane.new c8).pass.l false (Lane.new c8).pass.s (Lane.new c8).pass.r), .bag ((A35, ([98] : List UInt8).length, c36, 5, by8 ([98] : List UInt8)) :: ((A21, ([97] : List UInt8).length, c22, 5, by8 ([97] : List UInt8)) :: []))]) d5 2 false (((Lane.new c6).put (Msg.mk A35 ([98] : List UInt8) c36)).took []) ((Lane.new c7).put (Msg.mk A21 ([97] : List UInt8) c22)).pass (Lane.new c8).pass ((A35, ([98] : List UInt8).length, c36, 5, by8 ([98] : List UInt8)) :: ((A21, ([97] : List UInt8).length, c22, 5, by8 ([97] : List UInt8)) :: [])) (Msg.mk A21 ([97] : List UInt8) c22) [] w44 (Hp.startL (A := [.blk d5 [.chan (some (((Lane.new c6).put (Msg.mk A35 ([98] : List UInt8) c36)).took []).ch), .chan (some ((Lane.new c7).put (Msg.mk A21 ([97] : List UInt8) c22)).pass.ch), .chan (some (Lane.new c8).pass.ch), .int .i64 (((((Lane.new c6).put (Msg.mk A35 ([98] : List UInt8) c36)).took []).p : Nat) : Int), .int .i64 ((((Lane.new c7).put (Msg.mk A21 ([97] : List UInt8) c22)).pass.p : Nat) : Int), .int .i64 (((Lane.new c8).pass.p : Nat) : Int), .bool false] 52, .obj (((Lane.new c6).put (Msg.mk A35 ([98] : List UInt8) c36)).took []).ch (chO 2 (((Lane.new c6).put (Msg.mk A35 ([98] : List UInt8) c36)).took []).l false (((Lane.new c6).put (Msg.mk A35 ([98] : List UInt8) c36)).took []).s (((Lane.new c6).put (Msg.mk A35 ([98] : List UInt8) c36)).took []).r), .obj ((Lane.new c7).put (Msg.mk A21 ([97] : List UInt8) c22)).pass.ch (chO 2 ((Lane.new c7).put (Msg.mk A21 ([97] : List UInt8) c22)).pass.l false ((Lane.new c7).put (Msg.mk A21 ([97] : List UInt8) c22)).pass.s ((Lane.new c7).put (Msg.mk A21 ([97] : List UInt8) c22)).pass.r), .obj (Lane.new c8).pass.ch (chO 2 (Lane.new c8).pass.l false (Lane.new c8).pass.s (Lane.new c8).pass.r), .bag ((A35, ([98] : List UInt8).length, c36, 5, by8 ([98] : List UInt8)) :: ((A21, ([97] : List UInt8).length, c22, 5, by8 ([97] : List UInt8)) :: []))]) (B := [.blk p14 [.int .u8 97] 5, .blk p28 [.int .u8 98] 5]) H45) (Lane.z.took _ _) (Lane.z.pass (Lane.z.put (Lane.z.new _) (Msg.mk A21 ([97] : List UInt8) c22)) (by show (0 : Nat) < 1000000; decide)) (Lane.z.pass (Lane.z.new _) (by show (0 : Nat) < 1000000; decide)) htk49 hlk50) (by kernel_rfl) rfl (fun e_ w51 hR => ?_)
      obtain ⟨rfl, H53⟩ := hR
      have H52 : Hp w [] [.blk d5 [.chan (some (((Lane.new c6).put (Msg.mk A35 ([98] : List UInt8) c36)).took []).pass.ch), .chan (some (((Lane.new c7).put (Msg.mk A21 ([97] : List UInt8) c22)).pass.took []).ch), .chan (some (Lane.new c8).pass.pass.ch), .int .i64 (((((Lane.new c6).put (Msg.mk A35 ([98] : List UInt8) c36)).took []).pass.p : Nat) : Int), .int .i64 (((((Lane.new c7).put (Msg.mk A21 ([97] : List UInt8) c22)).pass.took []).p : Nat) : Int), .int .i64 (((Lane.new c8).pass.pass.p : Nat) : Int), .bool false] 52, .obj (((Lane.new c6).put (Msg.mk A35 ([98] : List UInt8) c36)).took []).pass.ch (chO 2 (((Lane.new c6).put (Msg.mk A35 ([98] : List UInt8) c36)).took []).pass.l false (((Lane.new c6).put (Msg.mk A35 ([98] : List UInt8) c36)).took []).pass.s (((Lane.new c6).put (Msg.mk A35 ([98] : List UInt8) c36)).took []).pass.r), .obj (((Lane.new c7).put (Msg.mk A21 ([97] : List UInt8) c22)).pass.took []).ch (chO 2 (((Lane.new c7).put (Msg.mk A21 ([97] : List UInt8) c22)).pass.took []).l false (((Lane.new c7).put (Msg.mk A21 ([97] : List UInt8) c22)).pass.took []).s (((Lane.new c7).put (Msg.mk A21 ([97] : List UInt8) c22)).pass.took []).r), .obj (Lane.new c8).pass.pass.ch (chO 2 (Lane.new c8).pass.pass.l false (Lane.new c8).pass.pass.s (Lane.new c8).pass.pass.r), .bag ((A35, ([98] : List UInt8).length, c36, 5, by8 ([98] : List UInt8)) :: ((A21, ([97] : List UInt8).length, c22, 5, by8 ([97] : List UInt8)) :: [])), .blk p14 [.int .u8 97] 5, .blk p28 [.int .u8 98] 5] w51 := Hp.callL (A := [.blk d5 [.chan (some (((Lane.new c6).put (Msg.mk A35 ([98] : List UInt8) c36)).took []).ch), .chan (some ((Lane.new c7).put (Msg.mk A21 ([97] : List UInt8) c22)).pass.ch), .chan (some (Lane.new c8).pass.ch), .int .i64 (((((Lane.new c6).put (Msg.mk A35 ([98] : List UInt8) c36)).took []).p : Nat) : Int), .int .i64 ((((Lane.new c7).put (Msg.mk A21 ([97] : List UInt8) c22)).pass.p : Nat) : Int), .int .i64 (((Lane.new c8).pass.p : Nat) : Int), .bool false] 52, .obj (((Lane.new c6).put (Msg.mk A35 ([98] : List UInt8) c36)).took []).ch (chO 2 (((Lane.new c6).put (Msg.mk A35 ([98] : List UInt8) c36)).took []).l false (((Lane.new c6).put (Msg.mk A35 ([98] : List UInt8) c36)).took []).s (((Lane.new c6).put (Msg.mk A35 ([98] : List UInt8) c36)).took []).r), .obj ((Lane.new c7).put (Msg.mk A21 ([97] : List UInt8) c22)).pass.ch (chO 2 ((Lane.new c7).put (Msg.mk A21 ([97] : List UInt8) c22)).pass.l false ((Lane.new c7).put (Msg.mk A21 ([97] : List UInt8) c22)).pass.s ((Lane.new c7).put (Msg.mk A21 ([97] : List UInt8) c22)).pass.r), .obj (Lane.new c8).pass.ch (chO 2 (Lane.new c8).pass.l false (Lane.new c8).pass.s (Lane.new c8).pass.r), .bag ((A35, ([98] : List UInt8).length, c36, 5, by8 ([98] : List UInt8)) :: ((A21, ([97] : List UInt8).length, c22, 5, by8 ([97] : List UInt8)) :: []))]) (B := [.blk p14 [.int .u8 97] 5, .blk p28 [.int .u8 98] 5]) H45 H53
      refine ⟨_, rfl, [2, 3, 4, 5, 6, 7, 31], [(2, .int .i64 0), (3, .int .i64 0), (4, .int .i64 0), (5, .slice A35 1 c36), (6, .int .i64 0), (7, .bool true), (31, .tuple #[.slice A21 1 c22, .int .i64 1, .bool true])], by kernel_rfl, ?_⟩
      refine GL.run (j := 9) 7 [2, 3, 4, 5, 6, 7, 8, 9, 10] [(2, .int .i64 0), (3, .int .i64 0), (4, .int .i64 0), (5, .slice A35 1 c36), (6, .int .i64 0), (7, .bool true), (8, .slice A21 1 c22), (9, .int .i64 1), (10, .bool true)] (by kernel_rfl) rfl ?_
      refine GL.k rfl hK48 (fun _ _ h => h) ?_
      refine G.seqK fun K54 hK55 => ?_
      refine G.region ?_
      refine GL.run (j := 26) 26 [8, 59, 60] [(8, .slice A21 1 c22), (59, .bool true), (60, .slice A35 1 c36)] (by kernel_rfl) rfl ?_
      refine GL.sem (j := 27) (run_toStr (P := Try.prog) (src := 22) (dst := 9) (A := A35) (bs := ([98] : List UInt8)) (n := 1) (c := c36) (by kernel_rfl) (by kernel_rfl) (H52.bagRd 4 rfl hmhlk43) (by first | rfl | omega | (simp only [List.length_cons, List.length_nil, List.length_drop, List.length_take, List.length_append] <;> omega))) [8, 59, 61] [(8, .slice A21 1 c22), (59, .bool true), (61, .string (strOf ([98] : List UInt8)))] (by kernel_rfl) (by kernel_rfl) rfl ?_
      refine GL.sem (j := 28) (run_str_eql (P := Try.prog) (t := 9) ([98] : List UInt8) ([98] : List UInt8) _) [8, 59, 62] [(8, .slice A21 1 c22), (59, .bool true), (62, .bool true)] (by kernel_rfl) (by kernel_rfl) rfl ?_
      refine GL.run (j := 31) 3 [64, 65] [(64, .bool true), (65, .slice A21 1 c22)] (by kernel_rfl) rfl ?_
      refine GL.sem (j := 32) (run_toStr (P := Try.prog) (src := 22) (dst := 9) (A := A21) (bs := ([97] : List UInt8)) (n := 1) (c := c22) (by kernel_rfl) (by kernel_rfl) (H52.bagRd 4 rfl hmhlk50) (by first | rfl | omega | (simp only [List.length_cons, List.length_nil, List.length_drop, List.length_take, List.length_append] <;> omega))) [64, 66] [(64, .bool true), (66, .string (strOf ([97] : List UInt8)))] (by kernel_rfl) (by kernel_rfl) rfl ?_
      refine GL.sem (j := 33) (run_str_eql (P := Try.prog) (t := 9) ([97] : List UInt8) ([97] : List UInt8) _) [64, 67] [(64, .bool true), (67, .bool true)] (by kernel_rfl) (by kernel_rfl) rfl ?_
      refine GL.run (j := 35) 2 [0] [(0, .bool true)] (by kernel_rfl) rfl ?_
      refine GL.k rfl hK55 (fun _ _ h => h) ?_
      refine G.ret ?_
      intro F_ hF_ hM_
      refine hRet _ _ (bodyPost_1 rfl (RV.tmp rfl) ?_ F_ hF_ hM_)
      exact ⟨rfl, H52.sub (List.nil_sublist _)⟩
end Go.Proofs.Ythcdelpdgkoioaa
set_option maxRecDepth 100000
namespace Go.Proofs.Ythcdelpdgkoioaa
open Go.RowKit
theorem CloseNil_calls (w : World) : Calls Try.prog 10 #[.pointer none] w fun e w' => e = .returned (.tuple #[]) ∧ Hp w [] [] w' := by
  refine calls_G (args := [.pointer none]) Try.func10 rfl Try.ntmps10 rfl ?_
  intro Q0 hRet hNor hPan
  have H := Hp.start w
  have H : Hp w [] [] w := H
  refine G.seqK fun K1 hK2 => ?_
  refine G.seqK fun K3 hK4 => ?_
  refine G.region ?_
  refine GL.run (j := 8) 8 [0, 11] [(0, .pointer none), (11, .bool true)] (by kernel_rfl) rfl ?_
  refine GL.k rfl hK4 (fun _ _ h => h) ?_
  refine G.yes rfl ?_
  refine G.ret ?_
  intro F_ hF_ hM_
  refine hRet _ _ (bodyPost_0 rfl  ?_ F_ hF_ hM_)
  exact ⟨rfl, H.sub (List.nil_sublist _)⟩
theorem TakeNil_calls (w : World) : Calls Try.prog 9 #[.pointer none] w fun e w' => e = .returned (.tuple #[.slice none 0 0, .int .i64 0, .bool false]) ∧ Hp w [] [] w' := by
  refine calls_GN (args := [.pointer none]) Try.func9 rfl Try.ntmps9 rfl ?_
  intro Q0 hRet hNor hPan
  have H := Hp.start w
  have H : Hp w [] [] w := H
  refine GN.seqK fun K1 hK2 => ?_
  refine G.region ?_
  refine GL.run (j := 3) 3 [0] [(0, .pointer none)] (by kernel_rfl) rfl ?_
  refine GL.kN rfl hK2 (fun _ _ h => h) ?_
  refine GN.seqK fun K3 hK4 => ?_
  refine G.seqK fun K5 hK6 => ?_
  refine G.region ?_
  refine GL.run (j := 2) 2 [0, 10] [(0, .pointer none), (10, .bool true)] (by kernel_rfl) rfl ?_
  refine GL.k rfl hK6 (fun _ _ h => h) ?_
  refine G.yes rfl ?_
  refine G.seqK fun K7 hK8 => ?_
  refine G.region ?_
  refine GL.run (j := 3) 3 [2, 3, 4] [(2, .slice none 0 0), (3, .int .i64 0), (4, .bool false)] (by kernel_rfl) rfl ?_
  refine GL.k rfl hK8 (fun _ _ h => h) ?_
  refine G.ret ?_
  intro F_ hF_ hM_
  refine hRet _ _ (bodyPost_3 rfl (RV.tmp rfl) (RV.tmp rfl) (RV.tmp rfl) ?_ F_ hF_ hM_)
  exact ⟨rfl, H.sub (List.nil_sublist _)⟩
theorem LenNil_calls (z : Int) (w : World) : Calls Try.prog 12 #[.pointer none, .int .i64 z] w fun e w' => e = .returned (.int .i64 0) ∧ Hp w [] [] w' := by
  refine calls_G (args := [.pointer none, .int .i64 z]) Try.func12 rfl Try.ntmps12 rfl ?_
  intro Q0 hRet hNor hPan
  have H := Hp.start w
  have H : Hp w [] [] w := H
  refine G.seqK fun K1 hK2 => ?_
  refine G.region ?_
  refine GL.run (j := 1) 1 [0, 1] [(0, .pointer none), (1, .int .i64 z)] (by kernel_rfl) rfl ?_
  refine GL.k rfl hK2 (fun _ _ h => h) ?_
  refine G.seqK fun K3 hK4 => ?_
  refine G.seqK fun K5 hK6 => ?_
  refine G.region ?_
  refine GL.run (j := 7) 7 [0, 1, 11] [(0, .pointer none), (1, .int .i64 z), (11, .bool true)] (by kernel_rfl) rfl ?_
  refine GL.k rfl hK6 (fun _ _ h => h) ?_
  refine G.yes rfl ?_
  refine G.seqK fun K7 hK8 => ?_
  refine G.region ?_
  refine GL.run (j := 1) 1 [4] [(4, .int .i64 0)] (by kernel_rfl) rfl ?_
  refine GL.k rfl hK8 (fun _ _ h => h) ?_
  refine G.ret ?_
  intro F_ hF_ hM_
  refine hRet _ _ (bodyPost_1 rfl (RV.tmp rfl) ?_ F_ hF_ hM_)
  exact ⟨rfl, H.sub (List.nil_sublist _)⟩
theorem AllNil_calls (w : World) : Calls Try.prog 13 #[.pointer none, .func (.func 14) #[] #[]] w fun e w' => e = .returned (.int .i64 0) ∧ Hp w [] [] w' := by
  refine calls_G (args := [.pointer none, .func (.func 14) #[] #[]]) Try.func13 rfl Try.ntmps13 rfl ?_
  intro Q0 hRet hNor hPan
  have H := Hp.start w
  have H : Hp w [] [] w := H
  refine G.seqK fun K1 hK2 => ?_
  refine G.region ?_
  refine GL.run (j := 1) 1 [0, 1] [(0, .pointer none), (1, .func (.func 14) #[] #[])] (by kernel_rfl) rfl ?_
  refine GL.k rfl hK2 (fun _ _ h => h) ?_
  refine G.seqK fun K3 hK4 => ?_
  refine G.region ?_
  refine GL.run (j := 1) 1 [0, 1, 5] [(0, .pointer none), (1, .func (.func 14) #[] #[]), (5, .int .i64 0)] (by kernel_rfl) rfl ?_
  refine GL.k rfl hK4 (fun _ _ h => h) ?_
  refine G.block ?_
  refine G.unroll 1 ?_
  refine G.block ?_
  refine G.seqK fun K5 hK6 => ?_
  refine G.region ?_
  refine GL.run (j := 1) 1 [0, 1, 5, 10] [(0, .pointer none), (1, .func (.func 14) #[] #[]), (5, .int .i64 0), (10, .pointer none)] (by kernel_rfl) rfl ?_
  refine GL.call (j := 2) (TakeNil_calls w) (by kernel_rfl) rfl (fun e_ w7 hR => ?_)
  obtain ⟨rfl, H9⟩ := hR
  have H8 : Hp w [] [] w7 := H.callNil H9
  refine ⟨_, rfl, [0, 1, 5, 11], [(0, .pointer none), (1, .func (.func 14) #[] #[]), (5, .int .i64 0), (11, .tuple #[.slice none 0 0, .int .i64 0, .bool false])], by kernel_rfl, ?_⟩
  refine GL.run (j := 9) 7 [0, 1, 5, 6, 7, 8] [(0, .pointer none), (1, .func (.func 14) #[] #[]), (5, .int .i64 0), (6, .slice none 0 0), (7, .int .i64 0), (8, .bool false)] (by kernel_rfl) rfl ?_
  refine GL.k rfl hK6 (fun _ _ h => h) ?_
  refine G.seqK fun K10 hK11 => ?_
  refine G.seqK fun K12 hK13 => ?_
  refine G.region ?_
  refine GL.run (j := 2) 2 [0, 1, 5, 6, 7, 16] [(0, .pointer none), (1, .func (.func 14) #[] #[]), (5, .int .i64 0), (6, .slice none 0 0), (7, .int .i64 0), (16, .bool true)] (by kernel_rfl) rfl ?_
  refine GL.k rfl hK13 (fun _ _ h => h) ?_
  refine G.yes rfl ?_
  refine G.seqK fun K14 hK15 => ?_
  refine G.region ?_
  refine GL.run (j := 2) 2 [4] [(4, .int .i64 0)] (by kernel_rfl) rfl ?_
  refine GL.k rfl hK15 (fun _ _ h => h) ?_
  refine G.ret ?_
  intro F_ hF_ hM_
  refine hRet _ _ (bodyPost_1 rfl (RV.tmp rfl) ?_ F_ hF_ hM_)
  exact ⟨rfl, H8.sub (List.nil_sublist _)⟩
theorem Len1_calls (S : List Nat) (d room : Nat) (cl : Bool) (a0 a1 a2 : Lane) (Gg : List (Option Addr × Nat × Nat × TypeId × List Value)) (w : World) (h0 : Hp w S [.blk d [.chan (some a0.ch), .chan (some a1.ch), .chan (some a2.ch), .int .i64 (a0.p : Int), .int .i64 (a1.p : Int), .int .i64 (a2.p : Int), .bool cl] 52, .obj a0.ch (chO room a0.l cl a0.s a0.r), .obj a1.ch (chO room a1.l cl a1.s a1.r), .obj a2.ch (chO room a2.l cl a2.s a2.r), .bag Gg] w) : Calls Try.prog 12 #[pt d 0, .int .i64 1] w fun e w' => e = .returned (.int .i64 (a1.l.length : Int)) ∧ Hp w S [.blk d [.chan (some a0.ch), .chan (some a1.ch), .chan (some a2.ch), .int .i64 (a0.p : Int), .int .i64 (a1.p : Int), .int .i64 (a2.p : Int), .bool cl] 52, .obj a0.ch (chO room a0.l cl a0.s a0.r), .obj a1.ch (chO room a1.l cl a1.s a1.r), .obj a2.ch (chO room a2.l cl a2.s a2.r), .bag Gg] w' := by
  refine calls_G (args := [pt d 0, .int .i64 1]) Try.func12 rfl Try.ntmps12 rfl ?_
  intro Q0 hRet hNor hPan
  have H := h0
  have H : Hp w S [.blk d [.chan (some a0.ch), .chan (some a1.ch), .chan (some a2.ch), .int .i64 (a0.p : Int), .int .i64 (a1.p : Int), .int .i64 (a2.p : Int), .bool cl] 52, .obj a0.ch (chO room a0.l cl a0.s a0.r), .obj a1.ch (chO room a1.l cl a1.s a1.r), .obj a2.ch (chO room a2.l cl a2.s a2.r), .bag Gg] w := H
  refine G.seqK fun K1 hK2 => ?_
  refine G.region ?_
  refine GL.run (j := 1) 1 [0, 1] [(0, pt d 0), (1, .int .i64 1)] (by kernel_rfl) rfl ?_
  refine GL.k rfl hK2 (fun _ _ h => h) ?_
  refine G.seqK fun K3 hK4 => ?_
  refine G.seqK fun K5 hK6 => ?_
  refine G.region ?_
  refine GL.run (j := 4) 4 [0, 1, 7, 8] [(0, pt d 0), (1, .int .i64 1), (7, .bool false), (8, .int .i64 1)] (by kernel_rfl) rfl ?_
  refine GL.call (j := 5) ((by have h_ := lane_calls 1 w; exact h_)) (by kernel_rfl) rfl (fun e_ w7 hR => ?_)
  obtain ⟨rfl, H9⟩ := hR
  have H8 : Hp w S [.blk d [.chan (some a0.ch), .chan (some a1.ch), .chan (some a2.ch), .int .i64 (a0.p : Int), .int .i64 (a1.p : Int), .int .i64 (a2.p : Int), .bool cl] 52, .obj a0.ch (chO room a0.l cl a0.s a0.r), .obj a1.ch (chO room a1.l cl a1.s a1.r), .obj a2.ch (chO room a2.l cl a2.s a2.r), .bag Gg] w7 := H.callNil H9
  refine ⟨_, rfl, [0, 1, 7, 9], [(0, pt d 0), (1, .int .i64 1), (7, .bool false), (9, .bool true)], by kernel_rfl, ?_⟩
  refine GL.run (j := 7) 2 [0, 1, 11] [(0, pt d 0), (1, .int .i64 1), (11, .bool false)] (by kernel_rfl) rfl ?_
  refine GL.k rfl hK6 (fun _ _ h => h) ?_
  refine G.no rfl ?_
  refine G.skipK hK4 (fun _ _ h => h) ?_
  refine G.seqK fun K10 hK11 => ?_
  refine G.region ?_
  refine GL.run (j := 5) 5 [16] [(16, pt d 1)] (by kernel_rfl) rfl ?_
  refine GL.sem (j := 6) (H8.ld (o := 1) (ty := 49) (v := .chan (some a1.ch)) 0 rfl (by kernel_rfl) rfl) [17] [(17, .chan (some a1.ch))] (by kernel_rfl) (by kernel_rfl) rfl ?_
  refine GL.sem (j := 7) (H8.lenChan (P := Try.prog) (t := 49) (ty := 3) (l := a1.l) 2 rfl Try.underlying49) [18] [(18, .int .i64 (a1.l.length : Int))] (by kernel_rfl) (by kernel_rfl) rfl ?_
  refine GL.run (j := 8) 1 [4] [(4, .int .i64 (a1.l.length : Int))] (by kernel_rfl) rfl ?_
  refine GL.k rfl hK11 (fun _ _ h => h) ?_
  refine G.ret ?_
  intro F_ hF_ hM_
  refine hRet _ _ (bodyPost_1 rfl (RV.tmp rfl) ?_ F_ hF_ hM_)
  exact ⟨rfl, H8⟩
end Go.Proofs.Ythcdelpdgkoioaa
namespace Go.Proofs.Ythcdelpdgkoioaa
open Go.RowKit
section
variable {P : Program} {ops : Array Oper} {Q : Exit → Act → World → Prop} {i n : Nat} {M : FM} {w : World}
theorem G.againSB {id : Nat} {X : Type} {Mx : X → FM} {J : X → World → Prop} {μ : X → Nat} {x : X} {Q' : Exit → Act → World → Prop} (x' : X) (ts : List Nat) (hp : pick ts M = some (Mx x')) (hμ : μ x' < μ x) (hJ : J x' w) :
    G P .skip (Exit.inBlock id (Exit.then (Again n Mx J μ x) Q')) n M w := fun F hF hM => wp_skip (⟨x', hμ, hJ, F, rfl, hF, hM.pick hp⟩ : Again n Mx J μ x ⟨F, []⟩ w)
end
end Go.Proofs.Ythcdelpdgkoioaa
set_option maxRecDepth 100000
namespace Go.Proofs.Ythcdelpdgkoioaa
open Go.RowKit
theorem Do_calls (S : List Nat) (pn pb ps n stop : Nat) (B : Option Addr) (bs : List UInt8) (bc : Nat) (X : Option Addr) (xs : List UInt8) (xc : Nat) (w : World) (h0 : Hp w S [.blk pn [.int .i64 (n : Int)] 3, .blk pb [.slice B bs.length bc] 22, .blk ps [.int .u8 (stop : Int)] 5] w) (hb : RdO w S B (by8 bs)) (hx : RdO w S X (by8 xs)) (hn : n ≤ 1000) (hs : stop < 256) : Calls Try.prog 15 #[.int .i64 1, .slice X xs.length xc, pt pn 0, pt pb 0, pt ps 0] w fun e w' => e = .returned (.bool ((xs == bs) && decide (n + 1 < stop))) ∧ Hp w S [.blk pn [.int .i64 (((n + 1) : Nat) : Int)] 3, .blk pb [.slice B bs.length bc] 22, .blk ps [.int .u8 (stop : Int)] 5] w' := by
  refine calls_G (args := [.int .i64 1, .slice X xs.length xc, pt pn 0, pt pb 0, pt ps 0]) Try.func15 rfl Try.ntmps15 rfl ?_
  intro Q0 hRet hNor hPan
  have H := h0
  have H : Hp w S [.blk pn [.int .i64 (n : Int)] 3, .blk pb [.slice B bs.length bc] 22, .blk ps [.int .u8 (stop : Int)] 5] w := H
  refine G.seqK fun K1 hK2 => ?_
  refine G.region ?_
  refine GL.run (j := 1) 1 [0, 1, 2, 3, 4] [(0, .int .i64 1), (1, .slice X xs.length xc), (2, pt pn 0), (3, pt pb 0), (4, pt ps 0)] (by kernel_rfl) rfl ?_
  refine GL.k rfl hK2 (fun _ _ h => h) ?_
  refine G.seqK fun K3 hK4 => ?_
  refine G.region ?_
  refine GL.sem (j := 1) (H.ld (o := 0) (ty := 3) (v := .int .i64 (n : Int)) 0 rfl (by kernel_rfl) rfl) [0, 1, 2, 3, 4, 8] [(0, .int .i64 1), (1, .slice X xs.length xc), (2, pt pn 0), (3, pt pb 0), (4, pt ps 0), (8, .int .i64 (n : Int))] (by kernel_rfl) (by kernel_rfl) rfl ?_
  refine GL.run (j := 2) 1 [0, 1, 2, 3, 4, 9] [(0, .int .i64 1), (1, .slice X xs.length xc), (2, pt pn 0), (3, pt pb 0), (4, pt ps 0), (9, .int .i64 (IntKind.i64.wrap ((n : Int) + 1)))] (by kernel_rfl) rfl ?_
  have e5 : (IntKind.i64.wrap ((n : Int) + 1)) = ((n + 1 : Nat) : Int) := by rw [in_i64 (by omega)]; omega
  refine GL.eq (M' := [(0, .int .i64 1), (1, .slice X xs.length xc), (2, pt pn 0), (3, pt pb 0), (4, pt ps 0), (9, .int .i64 ((n + 1 : Nat) : Int))]) (by rw [e5]) ?_
  clear e5
  obtain ⟨w6, r7, H8⟩ := H.st (P := Try.prog) (o := 0) (ty := 3) (v := .int .i64 ((n + 1 : Nat) : Int)) 0 rfl (by kernel_rfl) (by simp) rfl
  have H8 : Hp w S [.blk pn [.int .i64 ((n + 1 : Nat) : Int)] 3, .blk pb [.slice B bs.length bc] 22, .blk ps [.int .u8 (stop : Int)] 5] w6 := H8
  refine GL.semU (j := 3) r7 [0, 1, 2, 3, 4] [(0, .int .i64 1), (1, .slice X xs.length xc), (2, pt pn 0), (3, pt pb 0), (4, pt ps 0)] (by kernel_rfl) rfl rfl rfl ?_
  refine GL.k rfl hK4 (fun _ _ h => h) ?_
  refine G.seqK fun K9 hK10 => ?_
  refine G.region ?_
  refine GL.run (j := 4) 4 [2, 3, 4, 12, 13] [(2, pt pn 0), (3, pt pb 0), (4, pt ps 0), (12, .bool true), (13, .slice X xs.length xc)] (by kernel_rfl) rfl ?_
  refine GL.sem (j := 5) (run_toStr (P := Try.prog) (src := 22) (dst := 9) (A := X) (bs := xs) (n := xs.length) (c := xc) (by kernel_rfl) (by kernel_rfl) (hx.hp H8) (rfl)) [2, 3, 4, 12, 14] [(2, pt pn 0), (3, pt pb 0), (4, pt ps 0), (12, .bool true), (14, .string (strOf xs))] (by kernel_rfl) (by kernel_rfl) rfl ?_
  refine GL.sem (j := 6) (H8.ld (o := 0) (ty := 22) (v := .slice B bs.length bc) 1 rfl (by kernel_rfl) rfl) [2, 4, 12, 14, 15] [(2, pt pn 0), (4, pt ps 0), (12, .bool true), (14, .string (strOf xs)), (15, .slice B bs.length bc)] (by kernel_rfl) (by kernel_rfl) rfl ?_
  refine GL.sem (j := 7) (run_toStr (P := Try.prog) (src := 22) (dst := 9) (A := B) (bs := bs) (n := bs.length) (c := bc) (by kernel_rfl) (by kernel_rfl) (hb.hp H8) (rfl)) [2, 4, 12, 14, 16] [(2, pt pn 0), (4, pt ps 0), (12, .bool true), (14, .string (strOf xs)), (16, .string (strOf bs))] (by kernel_rfl) (by kernel_rfl) rfl ?_
  refine GL.sem (j := 8) (run_str_eql (P := Try.prog) (t := 9) xs bs _) [2, 4, 12, 17] [(2, pt pn 0), (4, pt ps 0), (12, .bool true), (17, .bool (xs == bs))] (by kernel_rfl) (by kernel_rfl) rfl ?_
  refine GL.run (j := 10) 2 [2, 4, 19] [(2, pt pn 0), (4, pt ps 0), (19, .bool (xs == bs))] (by kernel_rfl) rfl ?_
  cases hb11 : (xs == bs)
  · skip
    have hb11f := ne_of_beq_false hb11
    refine GL.run (j := 16) 6 [7] [(7, .bool false)] (by kernel_rfl) rfl ?_
    refine GL.k rfl hK10 (fun _ _ h => h) ?_
    refine G.ret ?_
    intro F_ hF_ hM_
    refine hRet _ _ (bodyPost_1 rfl (RV.tmp rfl) ?_ F_ hF_ hM_)
    rw [show (xs == bs) = false by assumption, Bool.false_and]
    exact ⟨rfl, H8⟩
  · skip
    have hb11f := eq_of_beq hb11
    refine GL.sem (j := 11) (H8.ld (o := 0) (ty := 3) (v := .int .i64 ((n + 1 : Nat) : Int)) 0 rfl (by kernel_rfl) rfl) [4, 19, 20] [(4, pt ps 0), (19, .bool true), (20, .int .i64 ((n + 1 : Nat) : Int))] (by kernel_rfl) (by kernel_rfl) rfl ?_
    refine GL.sem (j := 12) (H8.ld (o := 0) (ty := 5) (v := .int .u8 (stop : Int)) 2 rfl (by kernel_rfl) rfl) [19, 20, 21] [(19, .bool true), (20, .int .i64 ((n + 1 : Nat) : Int)), (21, .int .u8 (stop : Int))] (by kernel_rfl) (by kernel_rfl) rfl ?_
    refine GL.run (j := 16) 4 [7] [(7, .bool (decide (((n + 1 : Nat) : Int) < (IntKind.i64.wrap (stop : Int)))))] (by kernel_rfl) rfl ?_
    have e12 : (IntKind.i64.wrap (stop : Int)) = (stop : Int) := in_i64 (by omega)
    refine GL.eq (M' := [(7, .bool (decide (((n + 1 : Nat) : Int) < (stop : Int))))]) (by rw [e12]) ?_
    clear e12
    refine GL.k rfl hK10 (fun _ _ h => h) ?_
    refine G.ret ?_
    intro F_ hF_ hM_
    refine hRet _ _ (bodyPost_1 rfl (RV.tmp rfl) ?_ F_ hF_ hM_)
    have e0 : ((xs == bs) && decide (n + 1 < stop)) = (decide (((n + 1 : Nat) : Int) < (stop : Int))) := by rw [show (xs == bs) = true by assumption, Bool.true_and]; exact decide_eq_decide.2 ⟨fun h => by omega, fun h => by omega⟩
    rw [e0]
    exact ⟨rfl, H8⟩
theorem tk_mid {a0 a1 a2 : Lane} (h0 : a0.l.length = 0) (h2 : a2.l.length = 0) : (a1.l.length = 0 → tkN a0 a1 a2 = 3) ∧ (a1.l.length ≠ 0 → tkN a0 a1 a2 = 1) := by
  have n0 : ¬ (a0.l.length ≠ 0 ∧ 4 ≤ a0.p) := fun h => h.1 h0
  have n2 : ¬ (a2.l.length ≠ 0 ∧ 4 ≤ a2.p) := fun h => h.1 h2
  have m0 : ¬ a0.l.length ≠ 0 := fun h => h h0
  constructor
  · intro h1
    have n1 : ¬ (a1.l.length ≠ 0 ∧ 4 ≤ a1.p) := fun h => h.1 h1
    have m1 : ¬ a1.l.length ≠ 0 := fun h => h h1
    have m2 : ¬ a2.l.length ≠ 0 := fun h => h h2
    rw [tkN, if_neg n0, if_neg n1, if_neg n2, if_neg m0, if_neg m1, if_neg m2]
  · intro h1
    by_cases n1 : a1.l.length ≠ 0 ∧ 4 ≤ a1.p
    · rw [tkN, if_neg n0, if_pos n1]
    · rw [tkN, if_neg n0, if_neg n1, if_neg n2, if_neg m0, if_pos h1]
def Mid (bs : List UInt8) (n : Nat) (a0 a1 a2 : Lane) : Prop := a0.l.length = 0 ∧ a2.l.length = 0 ∧ a1.l.length = n ∧ (∀ m ∈ a1.l, m.b = bs) ∧ a0.z ∧ a1.z ∧ a2.z
theorem Mid.put {bs : List UInt8} {n : Nat} {a0 a1 a2 : Lane} (h : Mid bs n a0 a1 a2) {m : Msg} (hm : m.b = bs) : Mid bs (n + 1) a0 (a1.put m) a2 := by
  obtain ⟨h1, h2, h3, h4, h5, h6, h7⟩ := h
  refine ⟨h1, h2, by rw [put_len, h3], fun x hx => ?_, h5, h6.put m, h7⟩
  rcases List.mem_append.1 hx with hx | hx
  · exact h4 x hx
  · simp only [List.mem_cons, List.not_mem_nil, or_false] at hx
    rw [hx]
    exact hm
theorem Mid.head {bs : List UInt8} {n : Nat} {a0 a1 a2 : Lane} (h : Mid bs n a0 a1 a2) (hn : n ≠ 0) : ∃ mA mc r, a1.l = Msg.mk mA bs mc :: r ∧ Mid bs (n - 1) a0.pass (a1.took r) a2.pass := by
  obtain ⟨h1, h2, h3, h4, h5, h6, h7⟩ := h
  cases hc : a1.l with
  | nil =>
    rw [hc] at h3
    exact absurd h3.symm hn
  | cons m r =>
    rw [hc] at h3 h4
    obtain ⟨mA, mb, mc⟩ := m
    have hb : mb = bs := h4 _ List.mem_cons_self
    subst hb
    have zp : ∀ a : Lane, a.z → a.l.length = 0 → a.pass.z := fun a hz hl => ⟨fun _ => by rw [pass_p, if_pos hl]; exact hz.1 hl, by rw [pass_p, if_pos hl]; exact hz.2⟩
    exact ⟨mA, mc, r, rfl, h1, h2, by rw [List.length_cons] at h3; show r.length = _; omega, fun x hx => h4 x (List.mem_cons_of_mem _ hx), zp a0 h5 h1, Lane.z.took _ _, zp a2 h7 h2⟩
set_option maxHeartbeats 4000000 in
theorem All_calls (S : List Nat) (d room : Nat) (cl : Bool) (a0 a1 a2 : Lane) (Gg : List (Option Addr × Nat × Nat × TypeId × List Value)) (pn pb ps stop K_ : Nat) (B : Option Addr) (bs : List UInt8) (bc : Nat) (w : World) (h0 : Hp w S [.blk d [.chan (some a0.ch), .chan (some a1.ch), .chan (some a2.ch), .int .i64 (a0.p : Int), .int .i64 (a1.p : Int), .int .i64 (a2.p : Int), .bool cl] 52, .obj a0.ch (chO room a0.l cl a0.s a0.r), .obj a1.ch (chO room a1.l cl a1.s a1.r), .obj a2.ch (chO room a2.l cl a2.s a2.r), .bag Gg, .blk pn [.int .i64 0] 3, .blk pb [.slice B bs.length bc] 22, .blk ps [.int .u8 (stop : Int)] 5] w) (hb : RdO w S B (by8 bs)) (hs : stop < 256) (hK : K_ ≤ 300) (hM0 : Mid bs K_ a0 a1 a2) (hg0 : LnOk Gg a0) (hg1 : LnOk Gg a1) (hg2 : LnOk Gg a2) : Calls Try.prog 13 #[pt d 0, .func (.func 15) #[] #[pt pn 0, pt pb 0, pt ps 0]] w fun e w' => ∃ b0 b1 b2 : Lane, e = .returned (.int .i64 ((min K_ (max stop 1) : Nat) : Int)) ∧ Hp w S [.blk d [.chan (some b0.ch), .chan (some b1.ch), .chan (some b2.ch), .int .i64 (b0.p : Int), .int .i64 (b1.p : Int), .int .i64 (b2.p : Int), .bool cl] 52, .obj b0.ch (chO room b0.l cl b0.s b0.r), .obj b1.ch (chO room b1.l cl b1.s b1.r), .obj b2.ch (chO room b2.l cl b2.s b2.r), .bag Gg, .blk pn [.int .i64 (((min K_ (max stop 1)) : Nat) : Int)] 3, .blk pb [.slice B bs.length bc] 22, .blk ps [.int .u8 (stop : Int)] 5] w' ∧ b1.l.length = K_ - min K_ (max stop 1) := by
  refine calls_G (args := [pt d 0, .func (.func 15) #[] #[pt pn 0, pt pb 0, pt ps 0]]) Try.func13 rfl Try.ntmps13 rfl ?_
  intro Q0 hRet hNor hPan
  have H := h0
  have H : Hp w S [.blk d [.chan (some a0.ch), .chan (some a1.ch), .chan (some a2.ch), .int .i64 (a0.p : Int), .int .i64 (a1.p : Int), .int .i64 (a2.p : Int), .bool cl] 52, .obj a0.ch (chO room a0.l cl a0.s a0.r), .obj a1.ch (chO room a1.l cl a1.s a1.r), .obj a2.ch (chO room a2.l cl a2.s a2.r), .bag Gg, .blk pn [.int .i64 0] 3, .blk pb [.slice B bs.length bc] 22, .blk ps [.int .u8 (stop : Int)] 5] w := H
  refine G.seqK fun K1 hK2 => ?_
  refine G.region ?_
  refine GL.run (j := 1) 1 [0, 1] [(0, pt d 0), (1, .func (.func 15) #[] #[pt pn 0, pt pb 0, pt ps 0])] (by kernel_rfl) rfl ?_
  refine GL.k rfl hK2 (fun _ _ h => h) ?_
  refine G.seqK fun K3 hK4 => ?_
  refine G.region ?_
  refine GL.run (j := 1) 1 [0, 1, 5] [(0, pt d 0), (1, .func (.func 15) #[] #[pt pn 0, pt pb 0, pt ps 0]), (5, .int .i64 0)] (by kernel_rfl) rfl ?_
  refine GL.k rfl hK4 (fun _ _ h => h) ?_
  refine G.block ?_
  refine G.fit [0, 1, 5] (M' := [(0, pt d 0), (1, .func (.func 15) #[] #[pt pn 0, pt pb 0, pt ps 0]), (5, .int .i64 0)]) (by kernel_rfl) ?_
  refine G.loop (X := Nat × Lane × Lane × Lane) (fun ⟨j, b0, b1, b2⟩ => [(0, pt d 0), (1, .func (.func 15) #[] #[pt pn 0, pt pb 0, pt ps 0]), (5, .int .i64 (j : Int))]) (fun ⟨j, b0, b1, b2⟩ w_ => (j ≤ K_ ∧ (j = 0 ∨ j < stop) ∧ Mid bs (K_ - j) b0 b1 b2 ∧ LnOk Gg b0 ∧ LnOk Gg b1 ∧ LnOk Gg b2) ∧ Hp w S [.blk d [.chan (some b0.ch), .chan (some b1.ch), .chan (some b2.ch), .int .i64 (b0.p : Int), .int .i64 (b1.p : Int), .int .i64 (b2.p : Int), .bool cl] 52, .obj b0.ch (chO room b0.l cl b0.s b0.r), .obj b1.ch (chO room b1.l cl b1.s b1.r), .obj b2.ch (chO room b2.l cl b2.s b2.r), .bag Gg, .blk pn [.int .i64 (j : Int)] 3, .blk pb [.slice B bs.length bc] 22, .blk ps [.int .u8 (stop : Int)] 5] w_) (fun ⟨j, b0, b1, b2⟩ => K_ - j) ⟨0, a0, a1, a2⟩ [0, 1, 5] (by kernel_rfl) ⟨⟨Nat.zero_le _, .inl rfl, hM0, hg0, hg1, hg2⟩, H⟩ ?_
  rintro ⟨j, b0, b1, b2⟩ w5 ⟨hi6, H7⟩
  refine G.eq (M' := [(0, pt d 0), (1, .func (.func 15) #[] #[pt pn 0, pt pb 0, pt ps 0]), (5, .int .i64 (j : Int))]) rfl ?_
  have H7 : Hp w S [.blk d [.chan (some b0.ch), .chan (some b1.ch), .chan (some b2.ch), .int .i64 (b0.p : Int), .int .i64 (b1.p : Int), .int .i64 (b2.p : Int), .bool cl] 52, .obj b0.ch (chO room b0.l cl b0.s b0.r), .obj b1.ch (chO room b1.l cl b1.s b1.r), .obj b2.ch (chO room b2.l cl b2.s b2.r), .bag Gg, .blk pn [.int .i64 (j : Int)] 3, .blk pb [.slice B bs.length bc] 22, .blk ps [.int .u8 (stop : Int)] 5] w5 := H7
  obtain ⟨hjK, hjs, hM, hok0, hok1, hok2⟩ := hi6
  refine G.block ?_
  refine G.seqK fun K8 hK9 => ?_
  refine G.region ?_
  rcases Nat.eq_zero_or_pos (K_ - j) with hne | hne'
  · skip
    have htk := (tk_mid hM.1 hM.2.1).1 (by rw [hM.2.2.1]; exact hne)
    refine GL.run (j := 1) 1 [0, 1, 5, 10] [(0, pt d 0), (1, .func (.func 15) #[] #[pt pn 0, pt pb 0, pt ps 0]), (5, .int .i64 (j : Int)), (10, pt d 0)] (by kernel_rfl) rfl ?_
    refine GL.call (j := 2) (TakeNone_calls (ids [.blk d [.chan (some b0.ch), .chan (some b1.ch), .chan (some b2.ch), .int .i64 (b0.p : Int), .int .i64 (b1.p : Int), .int .i64 (b2.p : Int), .bool cl] 52, .obj b0.ch (chO room b0.l cl b0.s b0.r), .obj b1.ch (chO room b1.l cl b1.s b1.r), .obj b2.ch (chO room b2.l cl b2.s b2.r), .bag Gg]) d room cl b0 b1 b2 Gg w5 (Hp.startL (A := [.blk d [.chan (some b0.ch), .chan (some b1.ch), .chan (some b2.ch), .int .i64 (b0.p : Int), .int .i64 (b1.p : Int), .int .i64 (b2.p : Int), .bool cl] 52, .obj b0.ch (chO room b0.l cl b0.s b0.r), .obj b1.ch (chO room b1.l cl b1.s b1.r), .obj b2.ch (chO room b2.l cl b2.s b2.r), .bag Gg]) (B := [.blk pn [.int .i64 (j : Int)] 3, .blk pb [.slice B bs.length bc] 22, .blk ps [.int .u8 (stop : Int)] 5]) H7) hM.2.2.2.2.1 hM.2.2.2.2.2.1 hM.2.2.2.2.2.2 htk) (by kernel_rfl) rfl (fun e_ w10 hR => ?_)
    obtain ⟨rfl, H12⟩ := hR
    have H11 : Hp w S [.blk d [.chan (some b0.ch), .chan (some b1.ch), .chan (some b2.ch), .int .i64 (b0.p : Int), .int .i64 (b1.p : Int), .int .i64 (b2.p : Int), .bool cl] 52, .obj b0.ch (chO room b0.l cl b0.s b0.r), .obj b1.ch (chO room b1.l cl b1.s b1.r), .obj b2.ch (chO room b2.l cl b2.s b2.r), .bag Gg, .blk pn [.int .i64 (j : Int)] 3, .blk pb [.slice B bs.length bc] 22, .blk ps [.int .u8 (stop : Int)] 5] w10 := Hp.callL (A := [.blk d [.chan (some b0.ch), .chan (some b1.ch), .chan (some b2.ch), .int .i64 (b0.p : Int), .int .i64 (b1.p : Int), .int .i64 (b2.p : Int), .bool cl] 52, .obj b0.ch (chO room b0.l cl b0.s b0.r), .obj b1.ch (chO room b1.l cl b1.s b1.r), .obj b2.ch (chO room b2.l cl b2.s b2.r), .bag Gg]) (B := [.blk pn [.int .i64 (j : Int)] 3, .blk pb [.slice B bs.length bc] 22, .blk ps [.int .u8 (stop : Int)] 5]) H7 H12
    refine ⟨_, rfl, [0, 1, 5, 11], [(0, pt d 0), (1, .func (.func 15) #[] #[pt pn 0, pt pb 0, pt ps 0]), (5, .int .i64 (j : Int)), (11, .tuple #[.slice none 0 0, .int .i64 0, .bool false])], by kernel_rfl, ?_⟩
    refine GL.run (j := 9) 7 [0, 1, 5, 6, 7, 8] [(0, pt d 0), (1, .func (.func 15) #[] #[pt pn 0, pt pb 0, pt ps 0]), (5, .int .i64 (j : Int)), (6, .slice none 0 0), (7, .int .i64 0), (8, .bool false)] (by kernel_rfl) rfl ?_
    refine GL.k rfl hK9 (fun _ _ h => h) ?_
    refine G.seqK fun K13 hK14 => ?_
    refine G.seqK fun K15 hK16 => ?_
    refine G.region ?_
    refine GL.run (j := 2) 2 [0, 1, 5, 6, 7, 16] [(0, pt d 0), (1, .func (.func 15) #[] #[pt pn 0, pt pb 0, pt ps 0]), (5, .int .i64 (j : Int)), (6, .slice none 0 0), (7, .int .i64 0), (16, .bool true)] (by kernel_rfl) rfl ?_
    refine GL.k rfl hK16 (fun _ _ h => h) ?_
    refine G.yes rfl ?_
    refine G.seqK fun K17 hK18 => ?_
    refine G.region ?_
    refine GL.run (j := 2) 2 [4] [(4, .int .i64 (j : Int))] (by kernel_rfl) rfl ?_
    refine GL.k rfl hK18 (fun _ _ h => h) ?_
    refine G.ret ?_
    intro F_ hF_ hM_
    refine hRet _ _ (bodyPost_1 rfl (RV.tmp rfl) ?_ F_ hF_ hM_)
    have eN : min K_ (max stop 1) = j := by omega
    rw [eN]
    exact ⟨b0, b1, b2, rfl, H11, by have h_ := hM.2.2.1; omega⟩
  · skip
    have hne : K_ - j ≠ 0 := Nat.pos_iff_ne_zero.1 hne'
    have htk := (tk_mid hM.1 hM.2.1).2 (by rw [hM.2.2.1]; exact hne)
    obtain ⟨mA_, mc_, r_, hlk, hMn⟩ := hM.head hne
    refine GL.run (j := 1) 1 [0, 1, 5, 10] [(0, pt d 0), (1, .func (.func 15) #[] #[pt pn 0, pt pb 0, pt ps 0]), (5, .int .i64 (j : Int)), (10, pt d 0)] (by kernel_rfl) rfl ?_
    have hmhlk := (LnOk.took (G := Gg) (a := b1) hok1 hlk).2
    refine GL.call (j := 2) (Take1_calls (ids [.blk d [.chan (some b0.ch), .chan (some b1.ch), .chan (some b2.ch), .int .i64 (b0.p : Int), .int .i64 (b1.p : Int), .int .i64 (b2.p : Int), .bool cl] 52, .obj b0.ch (chO room b0.l cl b0.s b0.r), .obj b1.ch (chO room b1.l cl b1.s b1.r), .obj b2.ch (chO room b2.l cl b2.s b2.r), .bag Gg]) d room cl b0 b1 b2 Gg (Msg.mk mA_ bs mc_) r_ w5 (Hp.startL (A := [.blk d [.chan (some b0.ch), .chan (some b1.ch), .chan (some b2.ch), .int .i64 (b0.p : Int), .int .i64 (b1.p : Int), .int .i64 (b2.p : Int), .bool cl] 52, .obj b0.ch (chO room b0.l cl b0.s b0.r), .obj b1.ch (chO room b1.l cl b1.s b1.r), .obj b2.ch (chO room b2.l cl b2.s b2.r), .bag Gg]) (B := [.blk pn [.int .i64 (j : Int)] 3, .blk pb [.slice B bs.length bc] 22, .blk ps [.int .u8 (stop : Int)] 5]) H7) hM.2.2.2.2.1 hM.2.2.2.2.2.1 hM.2.2.2.2.2.2 htk hlk) (by kernel_rfl) rfl (fun e_ w19 hR => ?_)
    obtain ⟨rfl, H21⟩ := hR
    have H20 : Hp w S [.blk d [.chan (some b0.pass.ch), .chan (some (b1.took r_).ch), .chan (some b2.pass.ch), .int .i64 (b0.pass.p : Int), .int .i64 (((b1.took r_).p : Nat) : Int), .int .i64 (b2.pass.p : Int), .bool cl] 52, .obj b0.pass.ch (chO room b0.pass.l cl b0.pass.s b0.pass.r), .obj (b1.took r_).ch (chO room (b1.took r_).l cl (b1.took r_).s (b1.took r_).r), .obj b2.pass.ch (chO room b2.pass.l cl b2.pass.s b2.pass.r), .bag Gg, .blk pn [.int .i64 (j : Int)] 3, .blk pb [.slice B bs.length bc] 22, .blk ps [.int .u8 (stop : Int)] 5] w19 := Hp.callL (A := [.blk d [.chan (some b0.ch), .chan (some b1.ch), .chan (some b2.ch), .int .i64 (b0.p : Int), .int .i64 (b1.p : Int), .int .i64 (b2.p : Int), .bool cl] 52, .obj b0.ch (chO room b0.l cl b0.s b0.r), .obj b1.ch (chO room b1.l cl b1.s b1.r), .obj b2.ch (chO room b2.l cl b2.s b2.r), .bag Gg]) (B := [.blk pn [.int .i64 (j : Int)] 3, .blk pb [.slice B bs.length bc] 22, .blk ps [.int .u8 (stop : Int)] 5]) H7 H21
    refine ⟨_, rfl, [0, 1, 5, 11], [(0, pt d 0), (1, .func (.func 15) #[] #[pt pn 0, pt pb 0, pt ps 0]), (5, .int .i64 (j : Int)), (11, .tuple #[.slice mA_ bs.length mc_, .int .i64 1, .bool true])], by kernel_rfl, ?_⟩
    refine GL.run (j := 9) 7 [0, 1, 5, 6, 7, 8] [(0, pt d 0), (1, .func (.func 15) #[] #[pt pn 0, pt pb 0, pt ps 0]), (5, .int .i64 (j : Int)), (6, .slice mA_ bs.length mc_), (7, .int .i64 1), (8, .bool true)] (by kernel_rfl) rfl ?_
    refine GL.k rfl hK9 (fun _ _ h => h) ?_
    refine G.seqK fun K22 hK23 => ?_
    refine G.seqK fun K24 hK25 => ?_
    refine G.region ?_
    refine GL.run (j := 2) 2 [0, 1, 5, 6, 7, 16] [(0, pt d 0), (1, .func (.func 15) #[] #[pt pn 0, pt pb 0, pt ps 0]), (5, .int .i64 (j : Int)), (6, .slice mA_ bs.length mc_), (7, .int .i64 1), (16, .bool false)] (by kernel_rfl) rfl ?_
    refine GL.k rfl hK25 (fun _ _ h => h) ?_
    refine G.no rfl ?_
    refine G.skipK hK23 (fun _ _ h => h) ?_
    refine G.seqK fun K26 hK27 => ?_
    refine G.region ?_
    refine GL.run (j := 3) 3 [0, 1, 5, 6, 7] [(0, pt d 0), (1, .func (.func 15) #[] #[pt pn 0, pt pb 0, pt ps 0]), (5, .int .i64 (IntKind.i64.wrap ((j : Int) + 1))), (6, .slice mA_ bs.length mc_), (7, .int .i64 1)] (by kernel_rfl) rfl ?_
    have e28 : (IntKind.i64.wrap ((j : Int) + 1)) = ((j + 1 : Nat) : Int) := by rw [in_i64 (by omega)]; omega
    refine GL.eq (M' := [(0, pt d 0), (1, .func (.func 15) #[] #[pt pn 0, pt pb 0, pt ps 0]), (5, .int .i64 ((j + 1 : Nat) : Int)), (6, .slice mA_ bs.length mc_), (7, .int .i64 1)]) (by rw [e28]) ?_
    clear e28
    refine GL.k rfl hK27 (fun _ _ h => h) ?_
    refine G.seqK fun K29 hK30 => ?_
    refine G.region ?_
    refine GL.run (j := 3) 3 [0, 1, 5, 20, 21, 22] [(0, pt d 0), (1, .func (.func 15) #[] #[pt pn 0, pt pb 0, pt ps 0]), (5, .int .i64 ((j + 1 : Nat) : Int)), (20, .func (.func 15) #[] #[pt pn 0, pt pb 0, pt ps 0]), (21, .int .i64 1), (22, .slice mA_ bs.length mc_)] (by kernel_rfl) rfl ?_
    have H31 := (Hp.reorder (L' := [.blk pn [.int .i64 (j : Int)] 3, .blk pb [.slice B bs.length bc] 22, .blk ps [.int .u8 (stop : Int)] 5, .blk d [.chan (some b0.pass.ch), .chan (some (b1.took r_).ch), .chan (some b2.pass.ch), .int .i64 (b0.pass.p : Int), .int .i64 (((b1.took r_).p : Nat) : Int), .int .i64 (b2.pass.p : Int), .bool cl] 52, .obj b0.pass.ch (chO room b0.pass.l cl b0.pass.s b0.pass.r), .obj (b1.took r_).ch (chO room (b1.took r_).l cl (b1.took r_).s (b1.took r_).r), .obj b2.pass.ch (chO room b2.pass.l cl b2.pass.s b2.pass.r), .bag Gg]) H20 (List.Perm.trans (List.Perm.cons _ (List.Perm.cons _ (List.Perm.cons _ (List.Perm.cons _ (List.Perm.swap _ _ _))))) (List.Perm.trans (List.Perm.cons _ (List.Perm.cons _ (List.Perm.cons _ (List.Perm.swap _ _ _)))) (List.Perm.trans (List.Perm.cons _ (List.Perm.cons _ (List.Perm.swap _ _ _))) (List.Perm.trans (List.Perm.cons _ (List.Perm.swap _ _ _)) (List.Perm.trans (List.Perm.swap _ _ _) (List.Perm.cons _ (List.Perm.trans (List.Perm.cons _ (List.Perm.cons _ (List.Perm.cons _ (List.Perm.cons _ (List.Perm.swap _ _ _))))) (List.Perm.trans (List.Perm.cons _ (List.Perm.cons _ (List.Perm.cons _ (List.Perm.swap _ _ _)))) (List.Perm.trans (List.Perm.cons _ (List.Perm.cons _ (List.Perm.swap _ _ _))) (List.Perm.trans (List.Perm.cons _ (List.Perm.swap _ _ _)) (List.Perm.trans (List.Perm.swap _ _ _) (List.Perm.cons _ (List.Perm.trans (List.Perm.cons _ (List.Perm.cons _ (List.Perm.cons _ (List.Perm.cons _ (List.Perm.swap _ _ _))))) (List.Perm.trans (List.Perm.cons _ (List.Perm.cons _ (List.Perm.cons _ (List.Perm.swap _ _ _)))) (List.Perm.trans (List.Perm.cons _ (List.Perm.cons _ (List.Perm.swap _ _ _))) (List.Perm.trans (List.Perm.cons _ (List.Perm.swap _ _ _)) (List.Perm.trans (List.Perm.swap _ _ _) (List.Perm.refl _)))))))))))))))))))
    refine GL.call (j := 4) ((by have h_ := Do_calls (ids [.blk pn [.int .i64 (j : Int)] 3, .blk pb [.slice B bs.length bc] 22, .blk ps [.int .u8 (stop : Int)] 5]) pn pb ps j stop B bs bc mA_ bs mc_ w19 (Hp.startL (A := [.blk pn [.int .i64 (j : Int)] 3, .blk pb [.slice B bs.length bc] 22, .blk ps [.int .u8 (stop : Int)] 5]) (B := [.blk d [.chan (some b0.pass.ch), .chan (some (b1.took r_).ch), .chan (some b2.pass.ch), .int .i64 (b0.pass.p : Int), .int .i64 (((b1.took r_).p : Nat) : Int), .int .i64 (b2.pass.p : Int), .bool cl] 52, .obj b0.pass.ch (chO room b0.pass.l cl b0.pass.s b0.pass.r), .obj (b1.took r_).ch (chO room (b1.took r_).l cl (b1.took r_).s (b1.took r_).r), .obj b2.pass.ch (chO room b2.pass.l cl b2.pass.s b2.pass.r), .bag Gg]) H31) (hb.mid (A' := [.blk pn [.int .i64 (j : Int)] 3, .blk pb [.slice B bs.length bc] 22, .blk ps [.int .u8 (stop : Int)] 5]) (B' := [.blk d [.chan (some b0.pass.ch), .chan (some (b1.took r_).ch), .chan (some b2.pass.ch), .int .i64 (b0.pass.p : Int), .int .i64 (((b1.took r_).p : Nat) : Int), .int .i64 (b2.pass.p : Int), .bool cl] 52, .obj b0.pass.ch (chO room b0.pass.l cl b0.pass.s b0.pass.r), .obj (b1.took r_).ch (chO room (b1.took r_).l cl (b1.took r_).s (b1.took r_).r), .obj b2.pass.ch (chO room b2.pass.l cl b2.pass.s b2.pass.r), .bag Gg]) H31) (RdO.bag (A' := [.blk pn [.int .i64 (j : Int)] 3, .blk pb [.slice B bs.length bc] 22, .blk ps [.int .u8 (stop : Int)] 5]) (B' := [.blk d [.chan (some b0.pass.ch), .chan (some (b1.took r_).ch), .chan (some b2.pass.ch), .int .i64 (b0.pass.p : Int), .int .i64 (((b1.took r_).p : Nat) : Int), .int .i64 (b2.pass.p : Int), .bool cl] 52, .obj b0.pass.ch (chO room b0.pass.l cl b0.pass.s b0.pass.r), .obj (b1.took r_).ch (chO room (b1.took r_).l cl (b1.took r_).s (b1.took r_).r), .obj b2.pass.ch (chO room b2.pass.l cl b2.pass.s b2.pass.r), .bag Gg]) H31 4 rfl hmhlk) (by omega) hs; rw [beq_self_eq_true, Bool.true_and] at h_; exact h_)) (by kernel_rfl) rfl (fun e_ w32 hR => ?_)
    obtain ⟨rfl, H34⟩ := hR
    have H33 : Hp w S [.blk pn [.int .i64 (((j + 1) : Nat) : Int)] 3, .blk pb [.slice B bs.length bc] 22, .blk ps [.int .u8 (stop : Int)] 5, .blk d [.chan (some b0.pass.ch), .chan (some (b1.took r_).ch), .chan (some b2.pass.ch), .int .i64 (b0.pass.p : Int), .int .i64 (((b1.took r_).p : Nat) : Int), .int .i64 (b2.pass.p : Int), .bool cl] 52, .obj b0.pass.ch (chO room b0.pass.l cl b0.pass.s b0.pass.r), .obj (b1.took r_).ch (chO room (b1.took r_).l cl (b1.took r_).s (b1.took r_).r), .obj b2.pass.ch (chO room b2.pass.l cl b2.pass.s b2.pass.r), .bag Gg] w32 := Hp.callL (A := [.blk pn [.int .i64 (j : Int)] 3, .blk pb [.slice B bs.length bc] 22, .blk ps [.int .u8 (stop : Int)] 5]) (B := [.blk d [.chan (some b0.pass.ch), .chan (some (b1.took r_).ch), .chan (some b2.pass.ch), .int .i64 (b0.pass.p : Int), .int .i64 (((b1.took r_).p : Nat) : Int), .int .i64 (b2.pass.p : Int), .bool cl] 52, .obj b0.pass.ch (chO room b0.pass.l cl b0.pass.s b0.pass.r), .obj (b1.took r_).ch (chO room (b1.took r_).l cl (b1.took r_).s (b1.took r_).r), .obj b2.pass.ch (chO room b2.pass.l cl b2.pass.s b2.pass.r), .bag Gg]) H31 H34
    refine ⟨_, rfl, [0, 1, 5, 23], [(0, pt d 0), (1, .func (.func 15) #[] #[pt pn 0, pt pb 0, pt ps 0]), (5, .int .i64 ((j + 1 : Nat) : Int)), (23, .bool (decide (j + 1 < stop)))], by kernel_rfl, ?_⟩
    refine GL.run (j := 5) 1 [0, 1, 5, 24] [(0, pt d 0), (1, .func (.func 15) #[] #[pt pn 0, pt pb 0, pt ps 0]), (5, .int .i64 ((j + 1 : Nat) : Int)), (24, .bool (!(decide (j + 1 < stop))))] (by kernel_rfl) rfl ?_
    refine GL.k rfl hK30 (fun _ _ h => h) ?_
    cases hb35 : (decide (j + 1 < stop))
    · skip
      have hb35f := of_decide_eq_false hb35
      have hlt := of_decide_eq_false hb35
      refine G.yes rfl ?_
      refine G.seqK fun K36 hK37 => ?_
      refine G.region ?_
      refine GL.run (j := 2) 2 [4] [(4, .int .i64 ((j + 1 : Nat) : Int))] (by kernel_rfl) rfl ?_
      refine GL.k rfl hK37 (fun _ _ h => h) ?_
      refine G.ret ?_
      intro F_ hF_ hM_
      refine hRet _ _ (bodyPost_1 rfl (RV.tmp rfl) ?_ F_ hF_ hM_)
      have eN : min K_ (max stop 1) = (j + 1) := by omega
      rw [eN]
      exact ⟨b0.pass, (b1.took r_), b2.pass, rfl, (Hp.reorder (L' := [.blk d [.chan (some b0.pass.ch), .chan (some (b1.took r_).ch), .chan (some b2.pass.ch), .int .i64 (b0.pass.p : Int), .int .i64 (((b1.took r_).p : Nat) : Int), .int .i64 (b2.pass.p : Int), .bool cl] 52, .obj b0.pass.ch (chO room b0.pass.l cl b0.pass.s b0.pass.r), .obj (b1.took r_).ch (chO room (b1.took r_).l cl (b1.took r_).s (b1.took r_).r), .obj b2.pass.ch (chO room b2.pass.l cl b2.pass.s b2.pass.r), .bag Gg, .blk pn [.int .i64 (((j + 1) : Nat) : Int)] 3, .blk pb [.slice B bs.length bc] 22, .blk ps [.int .u8 (stop : Int)] 5]) H33 (List.Perm.trans (List.Perm.cons _ (List.Perm.cons _ (List.Perm.swap _ _ _))) (List.Perm.trans (List.Perm.cons _ (List.Perm.swap _ _ _)) (List.Perm.trans (List.Perm.swap _ _ _) (List.Perm.cons _ (List.Perm.trans (List.Perm.cons _ (List.Perm.cons _ (List.Perm.swap _ _ _))) (List.Perm.trans (List.Perm.cons _ (List.Perm.swap _ _ _)) (List.Perm.trans (List.Perm.swap _ _ _) (List.Perm.cons _ (List.Perm.trans (List.Perm.cons _ (List.Perm.cons _ (List.Perm.swap _ _ _))) (List.Perm.trans (List.Perm.cons _ (List.Perm.swap _ _ _)) (List.Perm.trans (List.Perm.swap _ _ _) (List.Perm.cons _ (List.Perm.trans (List.Perm.cons _ (List.Perm.cons _ (List.Perm.swap _ _ _))) (List.Perm.trans (List.Perm.cons _ (List.Perm.swap _ _ _)) (List.Perm.trans (List.Perm.swap _ _ _) (List.Perm.cons _ (List.Perm.trans (List.Perm.cons _ (List.Perm.cons _ (List.Perm.swap _ _ _))) (List.Perm.trans (List.Perm.cons _ (List.Perm.swap _ _ _)) (List.Perm.trans (List.Perm.swap _ _ _) (List.Perm.refl _))))))))))))))))))))), by rw [show (b1.took r_).l.length = K_ - j - 1 from hMn.2.2.1]; omega⟩
    · skip
      have hb35f := of_decide_eq_true hb35
      have hlt := of_decide_eq_true hb35
      refine G.no rfl ?_
      have H38 := (Hp.reorder (L' := [.blk d [.chan (some b0.pass.ch), .chan (some (b1.took r_).ch), .chan (some b2.pass.ch), .int .i64 (b0.pass.p : Int), .int .i64 (((b1.took r_).p : Nat) : Int), .int .i64 (b2.pass.p : Int), .bool cl] 52, .obj b0.pass.ch (chO room b0.pass.l cl b0.pass.s b0.pass.r), .obj (b1.took r_).ch (chO room (b1.took r_).l cl (b1.took r_).s (b1.took r_).r), .obj b2.pass.ch (chO room b2.pass.l cl b2.pass.s b2.pass.r), .bag Gg, .blk pn [.int .i64 (((j + 1) : Nat) : Int)] 3, .blk pb [.slice B bs.length bc] 22, .blk ps [.int .u8 (stop : Int)] 5]) H33 (List.Perm.trans (List.Perm.cons _ (List.Perm.cons _ (List.Perm.swap _ _ _))) (List.Perm.trans (List.Perm.cons _ (List.Perm.swap _ _ _)) (List.Perm.trans (List.Perm.swap _ _ _) (List.Perm.cons _ (List.Perm.trans (List.Perm.cons _ (List.Perm.cons _ (List.Perm.swap _ _ _))) (List.Perm.trans (List.Perm.cons _ (List.Perm.swap _ _ _)) (List.Perm.trans (List.Perm.swap _ _ _) (List.Perm.cons _ (List.Perm.trans (List.Perm.cons _ (List.Perm.cons _ (List.Perm.swap _ _ _))) (List.Perm.trans (List.Perm.cons _ (List.Perm.swap _ _ _)) (List.Perm.trans (List.Perm.swap _ _ _) (List.Perm.cons _ (List.Perm.trans (List.Perm.cons _ (List.Perm.cons _ (List.Perm.swap _ _ _))) (List.Perm.trans (List.Perm.cons _ (List.Perm.swap _ _ _)) (List.Perm.trans (List.Perm.swap _ _ _) (List.Perm.cons _ (List.Perm.trans (List.Perm.cons _ (List.Perm.cons _ (List.Perm.swap _ _ _))) (List.Perm.trans (List.Perm.cons _ (List.Perm.swap _ _ _)) (List.Perm.trans (List.Perm.swap _ _ _) (List.Perm.refl _)))))))))))))))))))))
      have hms : Mid bs (K_ - (j + 1)) b0.pass (b1.took r_) b2.pass := by rw [show K_ - (j + 1) = K_ - j - 1 by omega]; exact hMn
      refine G.fit [0, 1, 5] (M' := [(0, pt d 0), (1, .func (.func 15) #[] #[pt pn 0, pt pb 0, pt ps 0]), (5, .int .i64 ((j + 1 : Nat) : Int))]) (by kernel_rfl) ?_
      refine G.eq (M' := [(0, pt d 0), (1, .func (.func 15) #[] #[pt pn 0, pt pb 0, pt ps 0]), (5, .int .i64 (((j + 1) : Nat) : Int))]) (by rfl) ?_
      exact G.againSB ⟨(j + 1), b0.pass, (b1.took r_), b2.pass⟩ [0, 1, 5] (by kernel_rfl) (by show K_ - (j + 1) < K_ - j; omega) ⟨⟨by omega, .inr hlt, hms, hok0, (LnOk.took hok1 hlk).1, hok2⟩, H38⟩
end Go.Proofs.Ythcdelpdgkoioaa
set_option maxRecDepth 100000
namespace Go.Proofs.Ythcdelpdgkoioaa
open Go.RowKit
set_option maxHeartbeats 4000000 in
theorem DeskNone_calls (z_ : Int) (B : Option Addr) (bs : List UInt8) (bc : Nat) (kk st_ : UInt8) (w : World) (hx : RdS w B (by8 bs)) : Calls Try.prog 5 #[.int .i64 z_, .slice B bs.length bc, .int .u8 (kk.toNat : Int), .int .u8 (st_.toNat : Int)] w fun e w' => e = .returned (.bool true) ∧ Hp w [] [] w' := by
  refine calls_G (args := [.int .i64 z_, .slice B bs.length bc, .int .u8 (kk.toNat : Int), .int .u8 (st_.toNat : Int)]) Try.func5 rfl Try.ntmps5 rfl ?_
  intro Q0 hRet hNor hPan
  have H := Hp.start w
  have H : Hp w [] [] w := H
  refine G.seqK fun K1 hK2 => ?_
  refine G.region ?_
  obtain ⟨p3, w4, r5, H6⟩ := H.box (P := Try.prog) 22 [.slice B bs.length bc] (.slice B bs.length bc) rfl
  have H6 : Hp w [] [.blk p3 [.slice B bs.length bc] 22] w4 := H6
  refine GL.sem (j := 1) (r5) [0, 2, 3, 5] [(0, .int .i64 z_), (2, .int .u8 (kk.toNat : Int)), (3, .int .u8 (st_.toNat : Int)), (5, pt p3 0)] (by kernel_rfl) (by kernel_rfl) rfl ?_
  obtain ⟨p7, w8, r9, H10⟩ := H6.box (P := Try.prog) 5 [.int .u8 (st_.toNat : Int)] (.int .u8 (st_.toNat : Int)) rfl
  have H10 : Hp w [] [.blk p3 [.slice B bs.length bc] 22, .blk p7 [.int .u8 (st_.toNat : Int)] 5] w8 := H10
  refine GL.sem (j := 2) (r9) [0, 2, 5, 7] [(0, .int .i64 z_), (2, .int .u8 (kk.toNat : Int)), (5, pt p3 0), (7, pt p7 0)] (by kernel_rfl) (by kernel_rfl) rfl ?_
  refine GL.run (j := 3) 1 [0, 2, 5, 7] [(0, .int .i64 z_), (2, .int .u8 (kk.toNat : Int)), (5, pt p3 0), (7, pt p7 0)] (by kernel_rfl) rfl ?_
  refine GL.k rfl hK2 (fun _ _ h => h) ?_
  refine G.seqK fun K11 hK12 => ?_
  refine G.seqK fun K13 hK14 => ?_
  refine G.region ?_
  refine GL.call (j := 1) (lives_calls w8) (by kernel_rfl) rfl (fun e_ w15 hR => ?_)
  obtain ⟨rfl, H17⟩ := hR
  have H16 : Hp w [] [.blk p3 [.slice B bs.length bc] 22, .blk p7 [.int .u8 (st_.toNat : Int)] 5] w15 := H10.callNil H17
  refine ⟨_, rfl, [0, 2, 5, 7, 17], [(0, .int .i64 z_), (2, .int .u8 (kk.toNat : Int)), (5, pt p3 0), (7, pt p7 0), (17, .bool true)], by kernel_rfl, ?_⟩
  refine GL.run (j := 3) 2 [0, 2, 5, 7, 19] [(0, .int .i64 z_), (2, .int .u8 (kk.toNat : Int)), (5, pt p3 0), (7, pt p7 0), (19, .bool false)] (by kernel_rfl) rfl ?_
  refine GL.sem (j := 4) (H16.ld (o := 0) (ty := 22) (v := .slice B bs.length bc) 0 rfl (by kernel_rfl) rfl) [0, 2, 5, 7, 19, 20] [(0, .int .i64 z_), (2, .int .u8 (kk.toNat : Int)), (5, pt p3 0), (7, pt p7 0), (19, .bool false), (20, .slice B bs.length bc)] (by kernel_rfl) (by kernel_rfl) rfl ?_
  refine GL.run (j := 7) 3 [0, 2, 5, 7, 23] [(0, .int .i64 z_), (2, .int .u8 (kk.toNat : Int)), (5, pt p3 0), (7, pt p7 0), (23, .bool (decide (50 < (bs.length : Int))))] (by kernel_rfl) rfl ?_
  refine GL.k rfl hK14 (fun _ _ h => h) ?_
  cases hb18 : (decide (50 < (bs.length : Int)))
  · skip
    have hb18f := of_decide_eq_false hb18
    have hbl : bs.length ≤ 50 := by omega
    have hkl := UInt8.toNat_lt kk
    have hsl := UInt8.toNat_lt st_
    refine G.no rfl ?_
    refine G.skipK hK12 (fun _ _ h => h) ?_
    refine G.seqK fun K19 hK20 => ?_
    refine G.region ?_
    refine GL.run (j := 1) 1 [0, 2, 5, 7, 9] [(0, .int .i64 z_), (2, .int .u8 (kk.toNat : Int)), (5, pt p3 0), (7, pt p7 0), (9, .pointer none)] (by kernel_rfl) rfl ?_
    refine GL.k rfl hK20 (fun _ _ h => h) ?_
    refine G.seqK fun K21 hK22 => ?_
    refine G.region ?_
    refine GL.run (j := 1) 1 [0, 2, 5, 7, 9, 25] [(0, .int .i64 z_), (2, .int .u8 (kk.toNat : Int)), (5, pt p3 0), (7, pt p7 0), (9, .pointer none), (25, .pointer none)] (by kernel_rfl) rfl ?_
    refine GL.call (j := 2) (CloseNil_calls w15) (by kernel_rfl) rfl (fun e_ w23 hR => ?_)
    obtain ⟨rfl, H25⟩ := hR
    have H24 : Hp w [] [.blk p3 [.slice B bs.length bc] 22, .blk p7 [.int .u8 (st_.toNat : Int)] 5] w23 := H16.callNil H25
    refine ⟨_, rfl, [0, 2, 5, 7, 9], [(0, .int .i64 z_), (2, .int .u8 (kk.toNat : Int)), (5, pt p3 0), (7, pt p7 0), (9, .pointer none)], by kernel_rfl, ?_⟩
    refine GL.k rfl hK22 (fun _ _ h => h) ?_
    refine G.seqK fun K26 hK27 => ?_
    refine G.region ?_
    refine GL.run (j := 1) 1 [0, 2, 5, 7, 9, 28] [(0, .int .i64 z_), (2, .int .u8 (kk.toNat : Int)), (5, pt p3 0), (7, pt p7 0), (9, .pointer none), (28, .pointer none)] (by kernel_rfl) rfl ?_
    refine GL.call (j := 2) (TakeNil_calls w23) (by kernel_rfl) rfl (fun e_ w28 hR => ?_)
    obtain ⟨rfl, H30⟩ := hR
    have H29 : Hp w [] [.blk p3 [.slice B bs.length bc] 22, .blk p7 [.int .u8 (st_.toNat : Int)] 5] w28 := H24.callNil H30
    refine ⟨_, rfl, [0, 2, 5, 7, 9, 29], [(0, .int .i64 z_), (2, .int .u8 (kk.toNat : Int)), (5, pt p3 0), (7, pt p7 0), (9, .pointer none), (29, .tuple #[.slice none 0 0, .int .i64 0, .bool false])], by kernel_rfl, ?_⟩
    refine GL.run (j := 9) 7 [0, 2, 5, 7, 9, 12] [(0, .int .i64 z_), (2, .int .u8 (kk.toNat : Int)), (5, pt p3 0), (7, pt p7 0), (9, .pointer none), (12, .bool false)] (by kernel_rfl) rfl ?_
    refine GL.k rfl hK27 (fun _ _ h => h) ?_
    refine G.seqK fun K31 hK32 => ?_
    refine G.seqK fun K33 hK34 => ?_
    refine G.region ?_
    refine GL.run (j := 2) 2 [2, 5, 7, 9, 12, 33, 34] [(2, .int .u8 (kk.toNat : Int)), (5, pt p3 0), (7, pt p7 0), (9, .pointer none), (12, .bool false), (33, .pointer none), (34, .int .i64 z_)] (by kernel_rfl) rfl ?_
    refine GL.sem (j := 3) (H29.ld (o := 0) (ty := 22) (v := .slice B bs.length bc) 0 rfl (by kernel_rfl) rfl) [2, 5, 7, 9, 12, 33, 34, 35] [(2, .int .u8 (kk.toNat : Int)), (5, pt p3 0), (7, pt p7 0), (9, .pointer none), (12, .bool false), (33, .pointer none), (34, .int .i64 z_), (35, .slice B bs.length bc)] (by kernel_rfl) (by kernel_rfl) rfl ?_
    refine GL.call (j := 4) (PutNil_calls z_ B bs.length bc w28) (by kernel_rfl) rfl (fun e_ w35 hR => ?_)
    obtain ⟨rfl, H37⟩ := hR
    have H36 : Hp w [] [.blk p3 [.slice B bs.length bc] 22, .blk p7 [.int .u8 (st_.toNat : Int)] 5] w35 := H29.callNil H37
    refine ⟨_, rfl, [2, 5, 7, 9, 12, 36], [(2, .int .u8 (kk.toNat : Int)), (5, pt p3 0), (7, pt p7 0), (9, .pointer none), (12, .bool false), (36, .int .i64 1)], by kernel_rfl, ?_⟩
    refine GL.run (j := 10) 6 [2, 5, 7, 9, 41, 42] [(2, .int .u8 (kk.toNat : Int)), (5, pt p3 0), (7, pt p7 0), (9, .pointer none), (41, .bool false), (42, .pointer none)] (by kernel_rfl) rfl ?_
    refine GL.call (j := 11) (LenNil_calls 0 w35) (by kernel_rfl) rfl (fun e_ w38 hR => ?_)
    obtain ⟨rfl, H40⟩ := hR
    have H39 : Hp w [] [.blk p3 [.slice B bs.length bc] 22, .blk p7 [.int .u8 (st_.toNat : Int)] 5] w38 := H36.callNil H40
    refine ⟨_, rfl, [2, 5, 7, 9, 41, 43], [(2, .int .u8 (kk.toNat : Int)), (5, pt p3 0), (7, pt p7 0), (9, .pointer none), (41, .bool false), (43, .int .i64 0)], by kernel_rfl, ?_⟩
    refine GL.run (j := 15) 4 [2, 5, 7, 46, 47] [(2, .int .u8 (kk.toNat : Int)), (5, pt p3 0), (7, pt p7 0), (46, .bool false), (47, .pointer none)] (by kernel_rfl) rfl ?_
    refine GL.call (j := 16) (AllNil_calls w38) (by kernel_rfl) rfl (fun e_ w41 hR => ?_)
    obtain ⟨rfl, H43⟩ := hR
    have H42 : Hp w [] [.blk p3 [.slice B bs.length bc] 22, .blk p7 [.int .u8 (st_.toNat : Int)] 5] w41 := H39.callNil H43
    refine ⟨_, rfl, [2, 5, 7, 46, 48], [(2, .int .u8 (kk.toNat : Int)), (5, pt p3 0), (7, pt p7 0), (46, .bool false), (48, .int .i64 0)], by kernel_rfl, ?_⟩
    refine GL.run (j := 18) 2 [2, 5, 7, 50] [(2, .int .u8 (kk.toNat : Int)), (5, pt p3 0), (7, pt p7 0), (50, .bool false)] (by kernel_rfl) rfl ?_
    refine GL.k rfl hK34 (fun _ _ h => h) ?_
    refine G.no rfl ?_
    refine G.skipK hK32 (fun _ _ h => h) ?_
    refine G.seqK fun K44 hK45 => ?_
    refine G.region ?_
    refine GL.call (j := 1) (New_calls 256 w41 (by omega) (by omega)) (by kernel_rfl) rfl (fun e_ w50 hR => ?_)
    obtain ⟨d46, c47, c48, c49, rfl, H52⟩ := hR
    have H51 : Hp w [] [.blk p3 [.slice B bs.length bc] 22, .blk p7 [.int .u8 (st_.toNat : Int)] 5, .blk d46 [.chan (some (Lane.new c47).ch), .chan (some (Lane.new c48).ch), .chan (some (Lane.new c49).ch), .int .i64 (((Lane.new c47).p : Nat) : Int), .int .i64 (((Lane.new c48).p : Nat) : Int), .int .i64 (((Lane.new c49).p : Nat) : Int), .bool false] 52, .obj (Lane.new c47).ch (chO 256 (Lane.new c47).l false (Lane.new c47).s (Lane.new c47).r), .obj (Lane.new c48).ch (chO 256 (Lane.new c48).l false (Lane.new c48).s (Lane.new c48).r), .obj (Lane.new c49).ch (chO 256 (Lane.new c49).l false (Lane.new c49).s (Lane.new c49).r), .bag []] w50 := H42.callNew H52
    refine ⟨_, rfl, [2, 5, 7, 52], [(2, .int .u8 (kk.toNat : Int)), (5, pt p3 0), (7, pt p7 0), (52, .tuple #[pt d46 0, .int .i64 0])], by kernel_rfl, ?_⟩
    refine GL.run (j := 6) 5 [2, 5, 7, 13] [(2, .int .u8 (kk.toNat : Int)), (5, pt p3 0), (7, pt p7 0), (13, pt d46 0)] (by kernel_rfl) rfl ?_
    refine GL.k rfl hK45 (fun _ _ h => h) ?_
    refine G.seqK fun K53 hK54 => ?_
    refine G.seqK fun K55 hK56 => ?_
    refine G.region ?_
    refine GL.run (j := 2) 2 [2, 5, 7, 13, 55, 56] [(2, .int .u8 (kk.toNat : Int)), (5, pt p3 0), (7, pt p7 0), (13, pt d46 0), (55, .int .u8 (kk.toNat : Int)), (56, .int .u8 0)] (by kernel_rfl) rfl ?_
    refine GL.k rfl hK56 (fun _ _ h => h) ?_
    refine G.block ?_
    refine G.fit [2, 5, 7, 13, 55, 56] (M' := [(2, .int .u8 (kk.toNat : Int)), (5, pt p3 0), (7, pt p7 0), (13, pt d46 0), (55, .int .u8 (kk.toNat : Int)), (56, .int .u8 0)]) (by kernel_rfl) ?_
    refine G.loop (X := Nat × Lane × List (Option Addr × Nat × Nat × TypeId × List Value)) (fun ⟨i, b, Gg⟩ => [(2, .int .u8 (kk.toNat : Int)), (5, pt p3 0), (7, pt p7 0), (13, pt d46 0), (55, .int .u8 (kk.toNat : Int)), (56, .int .u8 (i : Int))]) (fun ⟨i, b, Gg⟩ w_ => (i ≤ kk.toNat ∧ Mid bs i (Lane.new c47) b (Lane.new c49) ∧ LnOk Gg (Lane.new c47) ∧ LnOk Gg b ∧ LnOk Gg (Lane.new c49)) ∧ Hp w [] [.blk p3 [.slice B bs.length bc] 22, .blk p7 [.int .u8 (st_.toNat : Int)] 5, .blk d46 [.chan (some (Lane.new c47).ch), .chan (some b.ch), .chan (some (Lane.new c49).ch), .int .i64 (((Lane.new c47).p : Nat) : Int), .int .i64 (b.p : Int), .int .i64 (((Lane.new c49).p : Nat) : Int), .bool false] 52, .obj (Lane.new c47).ch (chO 256 (Lane.new c47).l false (Lane.new c47).s (Lane.new c47).r), .obj b.ch (chO 256 b.l false b.s b.r), .obj (Lane.new c49).ch (chO 256 (Lane.new c49).l false (Lane.new c49).s (Lane.new c49).r), .bag Gg] w_) (fun ⟨i, b, Gg⟩ => kk.toNat - i) ⟨0, (Lane.new c48), ([] : List (Option Addr × Nat × Nat × TypeId × List Value))⟩ [2, 5, 7, 13, 55, 56] (by kernel_rfl) ⟨⟨Nat.zero_le _, ⟨rfl, rfl, rfl, fun m h => by simp [Lane.new] at h, Lane.z.new _, Lane.z.new _, Lane.z.new _⟩, LnOk.new _ _, LnOk.new _ _, LnOk.new _ _⟩, H51⟩ ?_
    rintro ⟨i, b, Gg⟩ w57 ⟨hi58, H59⟩
    refine G.eq (M' := [(2, .int .u8 (kk.toNat : Int)), (5, pt p3 0), (7, pt p7 0), (13, pt d46 0), (55, .int .u8 (kk.toNat : Int)), (56, .int .u8 (i : Int))]) rfl ?_
    have H59 : Hp w [] [.blk p3 [.slice B bs.length bc] 22, .blk p7 [.int .u8 (st_.toNat : Int)] 5, .blk d46 [.chan (some (Lane.new c47).ch), .chan (some b.ch), .chan (some (Lane.new c49).ch), .int .i64 (((Lane.new c47).p : Nat) : Int), .int .i64 (b.p : Int), .int .i64 (((Lane.new c49).p : Nat) : Int), .bool false] 52, .obj (Lane.new c47).ch (chO 256 (Lane.new c47).l false (Lane.new c47).s (Lane.new c47).r), .obj b.ch (chO 256 b.l false b.s b.r), .obj (Lane.new c49).ch (chO 256 (Lane.new c49).l false (Lane.new c49).s (Lane.new c49).r), .bag Gg] w57 := H59
    obtain ⟨hik, hMi, hg0, hg1, hg2⟩ := hi58
    refine G.seqK fun K60 hK61 => ?_
    refine G.region ?_
    refine GL.run (j := 1) 1 [2, 5, 7, 13, 55, 56, 57] [(2, .int .u8 (kk.toNat : Int)), (5, pt p3 0), (7, pt p7 0), (13, pt d46 0), (55, .int .u8 (kk.toNat : Int)), (56, .int .u8 (i : Int)), (57, .bool (decide ((i : Int) < (kk.toNat : Int))))] (by kernel_rfl) rfl ?_
    refine GL.k rfl hK61 (fun _ _ h => h) ?_
    refine G.seqK fun K62 hK63 => ?_
    cases hb64 : (decide ((i : Int) < (kk.toNat : Int)))
    · skip
      have hb64f := of_decide_eq_false hb64
      have hMk := hMi
      rw [show i = kk.toNat by omega] at hMk
      refine G.no rfl ?_
      refine G.exitK hK54 (fun _ _ h => h) ?_
      refine G.seqK fun K65 hK66 => ?_
      refine G.region ?_
      obtain ⟨p67, w68, r69, H70⟩ := H59.alloc (P := Try.prog) 3 [.int .i64 0] (by kernel_rfl)
      have H70 : Hp w [] [.blk p3 [.slice B bs.length bc] 22, .blk p7 [.int .u8 (st_.toNat : Int)] 5, .blk d46 [.chan (some (Lane.new c47).ch), .chan (some b.ch), .chan (some (Lane.new c49).ch), .int .i64 (((Lane.new c47).p : Nat) : Int), .int .i64 (b.p : Int), .int .i64 (((Lane.new c49).p : Nat) : Int), .bool false] 52, .obj (Lane.new c47).ch (chO 256 (Lane.new c47).l false (Lane.new c47).s (Lane.new c47).r), .obj b.ch (chO 256 b.l false b.s b.r), .obj (Lane.new c49).ch (chO 256 (Lane.new c49).l false (Lane.new c49).s (Lane.new c49).r), .bag Gg, .blk p67 [.int .i64 0] 3] w68 := H70
      refine GL.sem (j := 1) (r69) [2, 5, 7, 13, 15] [(2, .int .u8 (kk.toNat : Int)), (5, pt p3 0), (7, pt p7 0), (13, pt d46 0), (15, pt p67 0)] (by kernel_rfl) (by kernel_rfl) rfl ?_
      obtain ⟨w71, r72, H73⟩ := H70.st (P := Try.prog) (o := 0) (ty := 3) (v := .int .i64 0) 7 rfl (by kernel_rfl) (by simp) rfl
      have H73 : Hp w [] [.blk p3 [.slice B bs.length bc] 22, .blk p7 [.int .u8 (st_.toNat : Int)] 5, .blk d46 [.chan (some (Lane.new c47).ch), .chan (some b.ch), .chan (some (Lane.new c49).ch), .int .i64 (((Lane.new c47).p : Nat) : Int), .int .i64 (b.p : Int), .int .i64 (((Lane.new c49).p : Nat) : Int), .bool false] 52, .obj (Lane.new c47).ch (chO 256 (Lane.new c47).l false (Lane.new c47).s (Lane.new c47).r), .obj b.ch (chO 256 b.l false b.s b.r), .obj (Lane.new c49).ch (chO 256 (Lane.new c49).l false (Lane.new c49).s (Lane.new c49).r), .bag Gg, .blk p67 [.int .i64 0] 3] w71 := H73
      refine GL.semU (j := 2) r72 [2, 5, 7, 13, 15] [(2, .int .u8 (kk.toNat : Int)), (5, pt p3 0), (7, pt p7 0), (13, pt d46 0), (15, pt p67 0)] (by kernel_rfl) rfl rfl rfl ?_
      refine GL.k rfl hK66 (fun _ _ h => h) ?_
      refine G.seqK fun K74 hK75 => ?_
      refine G.region ?_
      refine GL.run (j := 2) 2 [2, 7, 13, 15, 62, 63] [(2, .int .u8 (kk.toNat : Int)), (7, pt p7 0), (13, pt d46 0), (15, pt p67 0), (62, pt d46 0), (63, .func (.func 15) #[] #[pt p67 0, pt p3 0, pt p7 0])] (by kernel_rfl) rfl ?_
      have H80 := (Hp.reorder (L' := [.blk d46 [.chan (some (Lane.new c47).ch), .chan (some b.ch), .chan (some (Lane.new c49).ch), .int .i64 (((Lane.new c47).p : Nat) : Int), .int .i64 (b.p : Int), .int .i64 (((Lane.new c49).p : Nat) : Int), .bool false] 52, .obj (Lane.new c47).ch (chO 256 (Lane.new c47).l false (Lane.new c47).s (Lane.new c47).r), .obj b.ch (chO 256 b.l false b.s b.r), .obj (Lane.new c49).ch (chO 256 (Lane.new c49).l false (Lane.new c49).s (Lane.new c49).r), .bag Gg, .blk p67 [.int .i64 0] 3, .blk p3 [.slice B bs.length bc] 22, .blk p7 [.int .u8 (st_.toNat : Int)] 5]) H73 (List.Perm.trans (List.Perm.cons _ (List.Perm.swap _ _ _)) (List.Perm.trans (List.Perm.swap _ _ _) (List.Perm.cons _ (List.Perm.trans (List.Perm.cons _ (List.Perm.swap _ _ _)) (List.Perm.trans (List.Perm.swap _ _ _) (List.Perm.cons _ (List.Perm.trans (List.Perm.cons _ (List.Perm.swap _ _ _)) (List.Perm.trans (List.Perm.swap _ _ _) (List.Perm.cons _ (List.Perm.trans (List.Perm.cons _ (List.Perm.swap _ _ _)) (List.Perm.trans (List.Perm.swap _ _ _) (List.Perm.cons _ (List.Perm.trans (List.Perm.cons _ (List.Perm.swap _ _ _)) (List.Perm.trans (List.Perm.swap _ _ _) (List.Perm.cons _ (List.Perm.trans (List.Perm.cons _ (List.Perm.swap _ _ _)) (List.Perm.trans (List.Perm.swap _ _ _) (List.Perm.refl _)))))))))))))))))))
      refine GL.call (j := 3) (All_calls (ids [.blk d46 [.chan (some (Lane.new c47).ch), .chan (some b.ch), .chan (some (Lane.new c49).ch), .int .i64 (((Lane.new c47).p : Nat) : Int), .int .i64 (b.p : Int), .int .i64 (((Lane.new c49).p : Nat) : Int), .bool false] 52, .obj (Lane.new c47).ch (chO 256 (Lane.new c47).l false (Lane.new c47).s (Lane.new c47).r), .obj b.ch (chO 256 b.l false b.s b.r), .obj (Lane.new c49).ch (chO 256 (Lane.new c49).l false (Lane.new c49).s (Lane.new c49).r), .bag Gg, .blk p67 [.int .i64 0] 3, .blk p3 [.slice B bs.length bc] 22, .blk p7 [.int .u8 (st_.toNat : Int)] 5]) d46 256 false (Lane.new c47) b (Lane.new c49) Gg p67 p3 p7 st_.toNat kk.toNat B bs bc w71 (Hp.startL (A := [.blk d46 [.chan (some (Lane.new c47).ch), .chan (some b.ch), .chan (some (Lane.new c49).ch), .int .i64 (((Lane.new c47).p : Nat) : Int), .int .i64 (b.p : Int), .int .i64 (((Lane.new c49).p : Nat) : Int), .bool false] 52, .obj (Lane.new c47).ch (chO 256 (Lane.new c47).l false (Lane.new c47).s (Lane.new c47).r), .obj b.ch (chO 256 b.l false b.s b.r), .obj (Lane.new c49).ch (chO 256 (Lane.new c49).l false (Lane.new c49).s (Lane.new c49).r), .bag Gg, .blk p67 [.int .i64 0] 3, .blk p3 [.slice B bs.length bc] 22, .blk p7 [.int .u8 (st_.toNat : Int)] 5]) (B := []) H80) ((RdO.of hx).mid (A' := [.blk d46 [.chan (some (Lane.new c47).ch), .chan (some b.ch), .chan (some (Lane.new c49).ch), .int .i64 (((Lane.new c47).p : Nat) : Int), .int .i64 (b.p : Int), .int .i64 (((Lane.new c49).p : Nat) : Int), .bool false] 52, .obj (Lane.new c47).ch (chO 256 (Lane.new c47).l false (Lane.new c47).s (Lane.new c47).r), .obj b.ch (chO 256 b.l false b.s b.r), .obj (Lane.new c49).ch (chO 256 (Lane.new c49).l false (Lane.new c49).s (Lane.new c49).r), .bag Gg, .blk p67 [.int .i64 0] 3, .blk p3 [.slice B bs.length bc] 22, .blk p7 [.int .u8 (st_.toNat : Int)] 5]) (B' := []) H80) (UInt8.toNat_lt _) (Nat.le_trans (Nat.le_of_lt (UInt8.toNat_lt _)) (by decide)) hMk hg0 hg1 hg2) (by kernel_rfl) rfl (fun e_ w81 hR => ?_)
      obtain ⟨b76, b77, b78, rfl, H83, hlen79⟩ := hR
      have H82 : Hp w [] [.blk d46 [.chan (some b76.ch), .chan (some b77.ch), .chan (some b78.ch), .int .i64 (b76.p : Int), .int .i64 (b77.p : Int), .int .i64 (b78.p : Int), .bool false] 52, .obj b76.ch (chO 256 b76.l false b76.s b76.r), .obj b77.ch (chO 256 b77.l false b77.s b77.r), .obj b78.ch (chO 256 b78.l false b78.s b78.r), .bag Gg, .blk p67 [.int .i64 (((min kk.toNat (max st_.toNat 1)) : Nat) : Int)] 3, .blk p3 [.slice B bs.length bc] 22, .blk p7 [.int .u8 (st_.toNat : Int)] 5] w81 := Hp.callL (A := [.blk d46 [.chan (some (Lane.new c47).ch), .chan (some b.ch), .chan (some (Lane.new c49).ch), .int .i64 (((Lane.new c47).p : Nat) : Int), .int .i64 (b.p : Int), .int .i64 (((Lane.new c49).p : Nat) : Int), .bool false] 52, .obj (Lane.new c47).ch (chO 256 (Lane.new c47).l false (Lane.new c47).s (Lane.new c47).r), .obj b.ch (chO 256 b.l false b.s b.r), .obj (Lane.new c49).ch (chO 256 (Lane.new c49).l false (Lane.new c49).s (Lane.new c49).r), .bag Gg, .blk p67 [.int .i64 0] 3, .blk p3 [.slice B bs.length bc] 22, .blk p7 [.int .u8 (st_.toNat : Int)] 5]) (B := []) H80 H83
      refine ⟨_, rfl, [2, 7, 13, 15, 64], [(2, .int .u8 (kk.toNat : Int)), (7, pt p7 0), (13, pt d46 0), (15, pt p67 0), (64, .int .i64 (((min kk.toNat (max st_.toNat 1)) : Nat) : Int))], by kernel_rfl, ?_⟩
      refine GL.run (j := 4) 1 [2, 7, 13, 15, 16] [(2, .int .u8 (kk.toNat : Int)), (7, pt p7 0), (13, pt d46 0), (15, pt p67 0), (16, .int .i64 (((min kk.toNat (max st_.toNat 1)) : Nat) : Int))] (by kernel_rfl) rfl ?_
      refine GL.k rfl hK75 (fun _ _ h => h) ?_
      refine G.seqK fun K84 hK85 => ?_
      refine G.heldP (Hp w [] [.blk d46 [.chan (some b76.ch), .chan (some b77.ch), .chan (some b78.ch), .int .i64 (b76.p : Int), .int .i64 (b77.p : Int), .int .i64 (b78.p : Int), .bool false] 52, .obj b76.ch (chO 256 b76.l false b76.s b76.r), .obj b77.ch (chO 256 b77.l false b77.s b77.r), .obj b78.ch (chO 256 b78.l false b78.s b78.r), .bag Gg, .blk p67 [.int .i64 (((min kk.toNat (max st_.toNat 1)) : Nat) : Int)] 3, .blk p3 [.slice B bs.length bc] 22, .blk p7 [.int .u8 (st_.toNat : Int)] 5]) (by kernel_rfl) (by kernel_rfl) (fun c_ a_ d_ v_ w_ h_ => hPan c_ a_ d_ v_ w_ h_) ?_
      have H86 := H82.drew
      generalize ({ w81 with drawn := w81.drawn + 1 } : World) = w87 at H86 ⊢
      have hS88 : Hp w [] [.blk d46 [.chan (some b76.ch), .chan (some b77.ch), .chan (some b78.ch), .int .i64 (b76.p : Int), .int .i64 (b77.p : Int), .int .i64 (b78.p : Int), .bool false] 52, .obj b76.ch (chO 256 b76.l false b76.s b76.r), .obj b77.ch (chO 256 b77.l false b77.s b77.r), .obj b78.ch (chO 256 b78.l false b78.s b78.r), .bag Gg, .blk p67 [.int .i64 (((min kk.toNat (max st_.toNat 1)) : Nat) : Int)] 3, .blk p3 [.slice B bs.length bc] 22, .blk p7 [.int .u8 (st_.toNat : Int)] 5] w87 := H86.sub (List.Sublist.cons_cons _ (List.Sublist.cons_cons _ (List.Sublist.cons_cons _ (List.Sublist.cons_cons _ (List.Sublist.cons_cons _ (List.Sublist.cons_cons _ (List.Sublist.cons_cons _ (List.Sublist.cons_cons _ (List.Sublist.slnil)))))))))
      refine GP.run [0] [2, 7, 13, 15, 65] [(2, .int .u8 (kk.toNat : Int)), (7, pt p7 0), (13, pt d46 0), (15, pt p67 0), (65, .int .i64 (((min kk.toNat (max st_.toNat 1)) : Nat) : Int))] [0] (by kernel_rfl) rfl hS88 ?_
      refine GP.sem 1 (fun w_ H_ => H_.ld (o := 0) (ty := 3) (v := .int .i64 (((min kk.toNat (max st_.toNat 1)) : Nat) : Int)) 5 rfl (by kernel_rfl) rfl) [2, 7, 13, 15, 65, 66] [(2, .int .u8 (kk.toNat : Int)), (7, pt p7 0), (13, pt d46 0), (15, pt p67 0), (65, .int .i64 (((min kk.toNat (max st_.toNat 1)) : Nat) : Int)), (66, .int .i64 (((min kk.toNat (max st_.toNat 1)) : Nat) : Int))] (by kernel_rfl) (by kernel_rfl) (by kernel_rfl) hS88 ?_
      refine GP.run [2, 3] [2, 7, 13, 15, 68] [(2, .int .u8 (kk.toNat : Int)), (7, pt p7 0), (13, pt d46 0), (15, pt p67 0), (68, .bool ((((min kk.toNat (max st_.toNat 1)) : Nat) : Int) == (((min kk.toNat (max st_.toNat 1)) : Nat) : Int)))] [0, 1, 2, 3] (by kernel_rfl) rfl hS88 ?_
      have hb89 : ((((min kk.toNat (max st_.toNat 1)) : Nat) : Int) == (((min kk.toNat (max st_.toNat 1)) : Nat) : Int)) = true := beq_self_eq_true _
      rw [hb89]
      refine GP.sem 4 (fun w_ H_ => H_.ld (o := 0) (ty := 3) (v := .int .i64 (((min kk.toNat (max st_.toNat 1)) : Nat) : Int)) 5 rfl (by kernel_rfl) rfl) [2, 7, 13, 15, 68, 69] [(2, .int .u8 (kk.toNat : Int)), (7, pt p7 0), (13, pt d46 0), (15, pt p67 0), (68, .bool true), (69, .int .i64 (((min kk.toNat (max st_.toNat 1)) : Nat) : Int))] (by kernel_rfl) (by kernel_rfl) (by kernel_rfl) hS88 ?_
      refine GP.run [5, 6] [2, 7, 13, 15, 68, 69, 71] [(2, .int .u8 (kk.toNat : Int)), (7, pt p7 0), (13, pt d46 0), (15, pt p67 0), (68, .bool true), (69, .int .i64 (((min kk.toNat (max st_.toNat 1)) : Nat) : Int)), (71, .int .i64 (IntKind.i64.wrap (kk.toNat : Int)))] [0, 1, 2, 3, 4, 5, 6] (by kernel_rfl) rfl hS88 ?_
      have e90 : (IntKind.i64.wrap (kk.toNat : Int)) = (kk.toNat : Int) := in_i64 (by omega)
      refine GP.eq (M' := [(2, .int .u8 (kk.toNat : Int)), (7, pt p7 0), (13, pt d46 0), (15, pt p67 0), (68, .bool true), (69, .int .i64 (((min kk.toNat (max st_.toNat 1)) : Nat) : Int)), (71, .int .i64 (kk.toNat : Int))]) (by rw [e90]) ?_
      clear e90
      refine GP.sem 7 (fun w_ H_ => H_.ld (o := 0) (ty := 5) (v := .int .u8 (st_.toNat : Int)) 7 rfl (by kernel_rfl) rfl) [2, 13, 15, 68, 69, 71, 72] [(2, .int .u8 (kk.toNat : Int)), (13, pt d46 0), (15, pt p67 0), (68, .bool true), (69, .int .i64 (((min kk.toNat (max st_.toNat 1)) : Nat) : Int)), (71, .int .i64 (kk.toNat : Int)), (72, .int .u8 (st_.toNat : Int))] (by kernel_rfl) (by kernel_rfl) (by kernel_rfl) hS88 ?_
      refine GP.run [8, 9, 10, 11, 12, 13] [2, 13, 15, 78] [(2, .int .u8 (kk.toNat : Int)), (13, pt d46 0), (15, pt p67 0), (78, .bool ((((min kk.toNat (max st_.toNat 1)) : Nat) : Int) == (if (if (1 : Int) > (IntKind.i64.wrap (st_.toNat : Int)) then (1 : Int) else (IntKind.i64.wrap (st_.toNat : Int))) < (kk.toNat : Int) then (if (1 : Int) > (IntKind.i64.wrap (st_.toNat : Int)) then (1 : Int) else (IntKind.i64.wrap (st_.toNat : Int))) else (kk.toNat : Int))))] [0, 1, 2, 3, 4, 5, 6, 7, 8, 9, 10, 11, 12, 13] (by kernel_rfl) rfl hS88 ?_
      have e91 : (IntKind.i64.wrap (st_.toNat : Int)) = (st_.toNat : Int) := in_i64 (by omega)
      have e92 : (if (1 : Int) > (st_.toNat : Int) then (1 : Int) else (st_.toNat : Int)) = (((max st_.toNat 1) : Nat) : Int) := max_int st_.toNat 1
      have e93 : (if (((max st_.toNat 1) : Nat) : Int) < (kk.toNat : Int) then (((max st_.toNat 1) : Nat) : Int) else (kk.toNat : Int)) = (((min kk.toNat (max st_.toNat 1)) : Nat) : Int) := min_int kk.toNat (max st_.toNat 1)
      refine GP.eq (M' := [(2, .int .u8 (kk.toNat : Int)), (13, pt d46 0), (15, pt p67 0), (78, .bool ((((min kk.toNat (max st_.toNat 1)) : Nat) : Int) == (((min kk.toNat (max st_.toNat 1)) : Nat) : Int)))]) (by rw [e91, e92, e93]) ?_
      clear e91 e92 e93
      have hb94 : ((((min kk.toNat (max st_.toNat 1)) : Nat) : Int) == (((min kk.toNat (max st_.toNat 1)) : Nat) : Int)) = true := by assumption
      rw [hb94]
      refine GP.run [14, 16, 17] [15, 78, 79, 82] [(15, pt p67 0), (78, .bool true), (79, pt d46 0), (82, .int .i64 (IntKind.i64.wrap (kk.toNat : Int)))] [0, 1, 2, 3, 4, 5, 6, 7, 8, 9, 10, 11, 12, 13, 14, 16, 17] (by kernel_rfl) rfl hS88 ?_
      have e95 : (IntKind.i64.wrap (kk.toNat : Int)) = (kk.toNat : Int) := in_i64 (by omega)
      refine GP.eq (M' := [(15, pt p67 0), (78, .bool true), (79, pt d46 0), (82, .int .i64 (kk.toNat : Int))]) (by rw [e95]) ?_
      clear e95
      refine GP.sem 18 (fun w_ H_ => H_.ld (o := 0) (ty := 3) (v := .int .i64 (((min kk.toNat (max st_.toNat 1)) : Nat) : Int)) 5 rfl (by kernel_rfl) rfl) [78, 79, 82, 83] [(78, .bool true), (79, pt d46 0), (82, .int .i64 (kk.toNat : Int)), (83, .int .i64 (((min kk.toNat (max st_.toNat 1)) : Nat) : Int))] (by kernel_rfl) (by kernel_rfl) (by kernel_rfl) hS88 ?_
      refine GP.run [19] [78, 79, 84] [(78, .bool true), (79, pt d46 0), (84, .int .i64 (IntKind.i64.wrap ((kk.toNat : Int) - (((min kk.toNat (max st_.toNat 1)) : Nat) : Int))))] [0, 1, 2, 3, 4, 5, 6, 7, 8, 9, 10, 11, 12, 13, 14, 16, 17, 18, 19] (by kernel_rfl) rfl hS88 ?_
      have e96 : (IntKind.i64.wrap ((kk.toNat : Int) - (((min kk.toNat (max st_.toNat 1)) : Nat) : Int))) = ((kk.toNat : Int) - (((min kk.toNat (max st_.toNat 1)) : Nat) : Int)) := in_i64 (by omega)
      refine GP.eq (M' := [(78, .bool true), (79, pt d46 0), (84, .int .i64 ((kk.toNat : Int) - (((min kk.toNat (max st_.toNat 1)) : Nat) : Int)))]) (by rw [e96]) ?_
      clear e96
      refine GP.call 15 (Len1_calls (ids [.blk d46 [.chan (some b76.ch), .chan (some b77.ch), .chan (some b78.ch), .int .i64 (b76.p : Int), .int .i64 (b77.p : Int), .int .i64 (b78.p : Int), .bool false] 52, .obj b76.ch (chO 256 b76.l false b76.s b76.r), .obj b77.ch (chO 256 b77.l false b77.s b77.r), .obj b78.ch (chO 256 b78.l false b78.s b78.r), .bag Gg]) d46 256 false b76 b77 b78 Gg w87 (Hp.startL (A := [.blk d46 [.chan (some b76.ch), .chan (some b77.ch), .chan (some b78.ch), .int .i64 (b76.p : Int), .int .i64 (b77.p : Int), .int .i64 (b78.p : Int), .bool false] 52, .obj b76.ch (chO 256 b76.l false b76.s b76.r), .obj b77.ch (chO 256 b77.l false b77.s b77.r), .obj b78.ch (chO 256 b78.l false b78.s b78.r), .bag Gg]) (B := [.blk p67 [.int .i64 (((min kk.toNat (max st_.toNat 1)) : Nat) : Int)] 3, .blk p3 [.slice B bs.length bc] 22, .blk p7 [.int .u8 (st_.toNat : Int)] 5]) H86)) (by kernel_rfl) (by kernel_rfl) (fun e_ w97 hR => ?_)
      obtain ⟨rfl, H99⟩ := hR
      have H98 : Hp w [] [.blk d46 [.chan (some b76.ch), .chan (some b77.ch), .chan (some b78.ch), .int .i64 (b76.p : Int), .int .i64 (b77.p : Int), .int .i64 (b78.p : Int), .bool false] 52, .obj b76.ch (chO 256 b76.l false b76.s b76.r), .obj b77.ch (chO 256 b77.l false b77.s b77.r), .obj b78.ch (chO 256 b78.l false b78.s b78.r), .bag Gg, .blk p67 [.int .i64 (((min kk.toNat (max st_.toNat 1)) : Nat) : Int)] 3, .blk p3 [.slice B bs.length bc] 22, .blk p7 [.int .u8 (st_.toNat : Int)] 5] w97 := Hp.callL (A := [.blk d46 [.chan (some b76.ch), .chan (some b77.ch), .chan (some b78.ch), .int .i64 (b76.p : Int), .int .i64 (b77.p : Int), .int .i64 (b78.p : Int), .bool false] 52, .obj b76.ch (chO 256 b76.l false b76.s b76.r), .obj b77.ch (chO 256 b77.l false b77.s b77.r), .obj b78.ch (chO 256 b78.l false b78.s b78.r), .bag Gg]) (B := [.blk p67 [.int .i64 (((min kk.toNat (max st_.toNat 1)) : Nat) : Int)] 3, .blk p3 [.slice B bs.length bc] 22, .blk p7 [.int .u8 (st_.toNat : Int)] 5]) H86 H99
      have hS100 : Hp w [] [.blk d46 [.chan (some b76.ch), .chan (some b77.ch), .chan (some b78.ch), .int .i64 (b76.p : Int), .int .i64 (b77.p : Int), .int .i64 (b78.p : Int), .bool false] 52, .obj b76.ch (chO 256 b76.l false b76.s b76.r), .obj b77.ch (chO 256 b77.l false b77.s b77.r), .obj b78.ch (chO 256 b78.l false b78.s b78.r), .bag Gg, .blk p67 [.int .i64 (((min kk.toNat (max st_.toNat 1)) : Nat) : Int)] 3, .blk p3 [.slice B bs.length bc] 22, .blk p7 [.int .u8 (st_.toNat : Int)] 5] w97 := H98.sub (List.Sublist.cons_cons _ (List.Sublist.cons_cons _ (List.Sublist.cons_cons _ (List.Sublist.cons_cons _ (List.Sublist.cons_cons _ (List.Sublist.cons_cons _ (List.Sublist.cons_cons _ (List.Sublist.cons_cons _ (List.Sublist.slnil)))))))))
      refine ⟨_, rfl, hS100, [78, 80, 84], [(78, .bool true), (80, .int .i64 (b77.l.length : Int)), (84, .int .i64 ((kk.toNat : Int) - (((min kk.toNat (max st_.toNat 1)) : Nat) : Int)))], by kernel_rfl, ?_⟩
      refine GP.run [20, 21, 22] [8] [(8, .bool ((b77.l.length : Int) == ((kk.toNat : Int) - (((min kk.toNat (max st_.toNat 1)) : Nat) : Int))))] [0, 1, 2, 3, 4, 5, 6, 7, 8, 9, 10, 11, 12, 13, 14, 16, 17, 18, 19, 15, 20, 21, 22] (by kernel_rfl) rfl hS100 ?_
      refine GP.k (by kernel_rfl) hK85 (fun _ _ h => h) ?_
      refine G.ret ?_
      intro F_ hF_ hM_
      refine hRet _ _ (bodyPost_1 rfl (RV.tmp rfl) ?_ F_ hF_ hM_)
      have hb101 : ((b77.l.length : Int) == ((kk.toNat : Int) - (((min kk.toNat (max st_.toNat 1)) : Nat) : Int))) = true := beq_iff_eq.2 (by omega)
      rw [hb101]
      exact ⟨rfl, H98.sub (List.nil_sublist _)⟩
    · skip
      have hb64f := of_decide_eq_true hb64
      refine G.yes rfl ?_
      refine G.skipK hK63 (fun _ _ h => h) ?_
      refine G.seqK fun K102 hK103 => ?_
      refine G.block ?_
      refine G.region ?_
      refine GL.run (j := 1) 1 [2, 5, 7, 13, 55, 56, 58] [(2, .int .u8 (kk.toNat : Int)), (5, pt p3 0), (7, pt p7 0), (13, pt d46 0), (55, .int .u8 (kk.toNat : Int)), (56, .int .u8 (i : Int)), (58, pt d46 0)] (by kernel_rfl) rfl ?_
      refine GL.sem (j := 2) (H59.ld (o := 0) (ty := 22) (v := .slice B bs.length bc) 0 rfl (by kernel_rfl) rfl) [2, 5, 7, 13, 55, 56, 58, 59] [(2, .int .u8 (kk.toNat : Int)), (5, pt p3 0), (7, pt p7 0), (13, pt d46 0), (55, .int .u8 (kk.toNat : Int)), (56, .int .u8 (i : Int)), (58, pt d46 0), (59, .slice B bs.length bc)] (by kernel_rfl) (by kernel_rfl) rfl ?_
      have H106 := (Hp.reorder (L' := [.blk d46 [.chan (some (Lane.new c47).ch), .chan (some b.ch), .chan (some (Lane.new c49).ch), .int .i64 (((Lane.new c47).p : Nat) : Int), .int .i64 (b.p : Int), .int .i64 (((Lane.new c49).p : Nat) : Int), .bool false] 52, .obj (Lane.new c47).ch (chO 256 (Lane.new c47).l false (Lane.new c47).s (Lane.new c47).r), .obj b.ch (chO 256 b.l false b.s b.r), .obj (Lane.new c49).ch (chO 256 (Lane.new c49).l false (Lane.new c49).s (Lane.new c49).r), .bag Gg, .blk p3 [.slice B bs.length bc] 22, .blk p7 [.int .u8 (st_.toNat : Int)] 5]) H59 (List.Perm.trans (List.Perm.cons _ (List.Perm.swap _ _ _)) (List.Perm.trans (List.Perm.swap _ _ _) (List.Perm.cons _ (List.Perm.trans (List.Perm.cons _ (List.Perm.swap _ _ _)) (List.Perm.trans (List.Perm.swap _ _ _) (List.Perm.cons _ (List.Perm.trans (List.Perm.cons _ (List.Perm.swap _ _ _)) (List.Perm.trans (List.Perm.swap _ _ _) (List.Perm.cons _ (List.Perm.trans (List.Perm.cons _ (List.Perm.swap _ _ _)) (List.Perm.trans (List.Perm.swap _ _ _) (List.Perm.cons _ (List.Perm.trans (List.Perm.cons _ (List.Perm.swap _ _ _)) (List.Perm.trans (List.Perm.swap _ _ _) (List.Perm.refl _))))))))))))))))
      refine GL.call (j := 3) (PutOk1_calls (ids [.blk d46 [.chan (some (Lane.new c47).ch), .chan (some b.ch), .chan (some (Lane.new c49).ch), .int .i64 (((Lane.new c47).p : Nat) : Int), .int .i64 (b.p : Int), .int .i64 (((Lane.new c49).p : Nat) : Int), .bool false] 52, .obj (Lane.new c47).ch (chO 256 (Lane.new c47).l false (Lane.new c47).s (Lane.new c47).r), .obj b.ch (chO 256 b.l false b.s b.r), .obj (Lane.new c49).ch (chO 256 (Lane.new c49).l false (Lane.new c49).s (Lane.new c49).r), .bag Gg]) d46 256 (Lane.new c47) b (Lane.new c49) Gg B bs bc w57 (Hp.startL (A := [.blk d46 [.chan (some (Lane.new c47).ch), .chan (some b.ch), .chan (some (Lane.new c49).ch), .int .i64 (((Lane.new c47).p : Nat) : Int), .int .i64 (b.p : Int), .int .i64 (((Lane.new c49).p : Nat) : Int), .bool false] 52, .obj (Lane.new c47).ch (chO 256 (Lane.new c47).l false (Lane.new c47).s (Lane.new c47).r), .obj b.ch (chO 256 b.l false b.s b.r), .obj (Lane.new c49).ch (chO 256 (Lane.new c49).l false (Lane.new c49).s (Lane.new c49).r), .bag Gg]) (B := [.blk p3 [.slice B bs.length bc] 22, .blk p7 [.int .u8 (st_.toNat : Int)] 5]) H106) (RdO.mid (A' := [.blk d46 [.chan (some (Lane.new c47).ch), .chan (some b.ch), .chan (some (Lane.new c49).ch), .int .i64 (((Lane.new c47).p : Nat) : Int), .int .i64 (b.p : Int), .int .i64 (((Lane.new c49).p : Nat) : Int), .bool false] 52, .obj (Lane.new c47).ch (chO 256 (Lane.new c47).l false (Lane.new c47).s (Lane.new c47).r), .obj b.ch (chO 256 b.l false b.s b.r), .obj (Lane.new c49).ch (chO 256 (Lane.new c49).l false (Lane.new c49).s (Lane.new c49).r), .bag Gg]) (B' := [.blk p3 [.slice B bs.length bc] 22, .blk p7 [.int .u8 (st_.toNat : Int)] 5]) (RdO.of hx) H106) (by have h_ := hMi.2.2.1; omega) (by omega)) (by kernel_rfl) rfl (fun e_ w107 hR => ?_)
      obtain ⟨A104, c105, rfl, H109⟩ := hR
      have H108 : Hp w [] [.blk d46 [.chan (some (Lane.new c47).ch), .chan (some (b.put (Msg.mk A104 bs c105)).ch), .chan (some (Lane.new c49).ch), .int .i64 (((Lane.new c47).p : Nat) : Int), .int .i64 (((b.put (Msg.mk A104 bs c105)).p : Nat) : Int), .int .i64 (((Lane.new c49).p : Nat) : Int), .bool false] 52, .obj (Lane.new c47).ch (chO 256 (Lane.new c47).l false (Lane.new c47).s (Lane.new c47).r), .obj (b.put (Msg.mk A104 bs c105)).ch (chO 256 (b.put (Msg.mk A104 bs c105)).l false (b.put (Msg.mk A104 bs c105)).s (b.put (Msg.mk A104 bs c105)).r), .obj (Lane.new c49).ch (chO 256 (Lane.new c49).l false (Lane.new c49).s (Lane.new c49).r), .bag ((A104, bs.length, c105, 5, by8 bs) :: Gg), .blk p3 [.slice B bs.length bc] 22, .blk p7 [.int .u8 (st_.toNat : Int)] 5] w107 := Hp.callL (A := [.blk d46 [.chan (some (Lane.new c47).ch), .chan (some b.ch), .chan (some (Lane.new c49).ch), .int .i64 (((Lane.new c47).p : Nat) : Int), .int .i64 (b.p : Int), .int .i64 (((Lane.new c49).p : Nat) : Int), .bool false] 52, .obj (Lane.new c47).ch (chO 256 (Lane.new c47).l false (Lane.new c47).s (Lane.new c47).r), .obj b.ch (chO 256 b.l false b.s b.r), .obj (Lane.new c49).ch (chO 256 (Lane.new c49).l false (Lane.new c49).s (Lane.new c49).r), .bag Gg]) (B := [.blk p3 [.slice B bs.length bc] 22, .blk p7 [.int .u8 (st_.toNat : Int)] 5]) H106 H109
      refine ⟨_, rfl, [2, 5, 7, 13, 55, 56], [(2, .int .u8 (kk.toNat : Int)), (5, pt p3 0), (7, pt p7 0), (13, pt d46 0), (55, .int .u8 (kk.toNat : Int)), (56, .int .u8 (i : Int))], by kernel_rfl, ?_⟩
      refine GL.k rfl hK103 (fun _ _ h => h) ?_
      refine G.region ?_
      refine GL.run (j := 2) 2 [2, 5, 7, 13, 55, 56] [(2, .int .u8 (kk.toNat : Int)), (5, pt p3 0), (7, pt p7 0), (13, pt d46 0), (55, .int .u8 (kk.toNat : Int)), (56, .int .u8 (IntKind.u8.wrap ((i : Int) + 1)))] (by kernel_rfl) rfl ?_
      have e110 : (IntKind.u8.wrap ((i : Int) + 1)) = ((i + 1 : Nat) : Int) := by rw [in_u8 (by omega)]; omega
      refine GL.eq (M' := [(2, .int .u8 (kk.toNat : Int)), (5, pt p3 0), (7, pt p7 0), (13, pt d46 0), (55, .int .u8 (kk.toNat : Int)), (56, .int .u8 ((i + 1 : Nat) : Int))]) (by rw [e110]) ?_
      clear e110
      have H111 := (Hp.reorder (L' := [.blk p3 [.slice B bs.length bc] 22, .blk p7 [.int .u8 (st_.toNat : Int)] 5, .blk d46 [.chan (some (Lane.new c47).ch), .chan (some (b.put (Msg.mk A104 bs c105)).ch), .chan (some (Lane.new c49).ch), .int .i64 (((Lane.new c47).p : Nat) : Int), .int .i64 (((b.put (Msg.mk A104 bs c105)).p : Nat) : Int), .int .i64 (((Lane.new c49).p : Nat) : Int), .bool false] 52, .obj (Lane.new c47).ch (chO 256 (Lane.new c47).l false (Lane.new c47).s (Lane.new c47).r), .obj (b.put (Msg.mk A104 bs c105)).ch (chO 256 (b.put (Msg.mk A104 bs c105)).l false (b.put (Msg.mk A104 bs c105)).s (b.put (Msg.mk A104 bs c105)).r), .obj (Lane.new c49).ch (chO 256 (Lane.new c49).l false (Lane.new c49).s (Lane.new c49).r), .bag ((A104, bs.length, c105, 5, by8 bs) :: Gg)]) H108 (List.Perm.trans (List.Perm.cons _ (List.Perm.cons _ (List.Perm.cons _ (List.Perm.cons _ (List.Perm.swap _ _ _))))) (List.Perm.trans (List.Perm.cons _ (List.Perm.cons _ (List.Perm.cons _ (List.Perm.swap _ _ _)))) (List.Perm.trans (List.Perm.cons _ (List.Perm.cons _ (List.Perm.swap _ _ _))) (List.Perm.trans (List.Perm.cons _ (List.Perm.swap _ _ _)) (List.Perm.trans (List.Perm.swap _ _ _) (List.Perm.cons _ (List.Perm.trans (List.Perm.cons _ (List.Perm.cons _ (List.Perm.cons _ (List.Perm.cons _ (List.Perm.swap _ _ _))))) (List.Perm.trans (List.Perm.cons _ (List.Perm.cons _ (List.Perm.cons _ (List.Perm.swap _ _ _)))) (List.Perm.trans (List.Perm.cons _ (List.Perm.cons _ (List.Perm.swap _ _ _))) (List.Perm.trans (List.Perm.cons _ (List.Perm.swap _ _ _)) (List.Perm.trans (List.Perm.swap _ _ _) (List.Perm.refl _)))))))))))))
      refine GL.fit (ts := [2, 5, 7, 13, 55, 56]) (M' := [(2, .int .u8 (kk.toNat : Int)), (5, pt p3 0), (7, pt p7 0), (13, pt d46 0), (55, .int .u8 (kk.toNat : Int)), (56, .int .u8 ((i + 1 : Nat) : Int))]) (by kernel_rfl) ?_
      refine GL.eq (M' := [(2, .int .u8 (kk.toNat : Int)), (5, pt p3 0), (7, pt p7 0), (13, pt d46 0), (55, .int .u8 (kk.toNat : Int)), (56, .int .u8 (((i + 1) : Nat) : Int))]) (by rfl) ?_
      exact GL.again ⟨(i + 1), (b.put (Msg.mk A104 bs c105)), ((A104, bs.length, c105, 5, by8 bs) :: Gg)⟩ [2, 5, 7, 13, 55, 56] rfl (by kernel_rfl) (by show kk.toNat - (i + 1) < kk.toNat - i; omega) ⟨⟨by omega, hMi.put rfl, (LnOk.more hg0 _), (LnOk.put hg1 (Msg.mk A104 bs c105)), (LnOk.more hg2 _)⟩, H111⟩
  · skip
    have hb18f := of_decide_eq_true hb18
    refine G.yes rfl ?_
    refine G.seqK fun K112 hK113 => ?_
    refine G.region ?_
    refine GL.call (j := 1) (lives_calls w15) (by kernel_rfl) rfl (fun e_ w114 hR => ?_)
    obtain ⟨rfl, H116⟩ := hR
    have H115 : Hp w [] [.blk p3 [.slice B bs.length bc] 22, .blk p7 [.int .u8 (st_.toNat : Int)] 5] w114 := H16.callNil H116
    refine ⟨_, rfl, [24], [(24, .bool true)], by kernel_rfl, ?_⟩
    refine GL.run (j := 2) 1 [8] [(8, .bool true)] (by kernel_rfl) rfl ?_
    refine GL.k rfl hK113 (fun _ _ h => h) ?_
    refine G.ret ?_
    intro F_ hF_ hM_
    refine hRet _ _ (bodyPost_1 rfl (RV.tmp rfl) ?_ F_ hF_ hM_)
    exact ⟨rfl, H115.sub (List.nil_sublist _)⟩
end Go.Proofs.Ythcdelpdgkoioaa
namespace Go.Proofs.Ythcdelpdgkoioaa
open Go.ChangeShapes Go.WideShapes Go.ChangeAt Go.RowKit
open Go.ChangeMaps (open_string shut_string)
set_option linter.unusedVariables false
theorem deskNone_own : ownKnob Try.prog.godebug = none := by kernel_rfl
theorem deskNone_laidOut : laidOutB Try.prog = true := by kernel_rfl
set_option maxRecDepth 100000 in
theorem deskNone_lifted (os : Os) (started : os.Started) (H : Type) (enc : TypeId × Value → H) :
    ReturnsInHanded {} Try.checked os 5 .any (Rows.deskNoneSpec.pre6 enc Try.prog Try.f5 Rows.deskNoneRow.domain false) (Rows.deskNoneSpec.post enc Try.prog Try.f5 false true false false) := by
  refine returnsInHanded_of_change (C := Try.checked) deskNone_own started (by kernel_rfl) Try.func5
    (ChangeSpec.witness6 (enc := enc) (C := Try.checked) false ⟨#[], #[.int .i64 0, .slice none 0 0, .int .u8 0, .int .u8 0], []⟩ 12 (by kernel_rfl) (by kernel_rfl) (by kernel_rfl) (by kernel_rfl)) ?_
  intro W base args ds gs before hval0 hW hcnd _
  have hval : ∀ (j : Nat) t v, Try.f5.params[j]? = some t → args[j]? = some v → Value.okWide Try.prog W .any base t v := hval0
  have hW' := hW
  obtain ⟨p, q, hA0, hV, rfl, hfz, hnd⟩ := hW
  have hA : DataW.TrodAll enc Try.prog W 0 (fun _ => true) true Try.f5.params.toList args.toList ds p := hA0
  rw [Try.params5] at hA hval
  obtain ⟨v0, vs0, d0, ds0, p0, q0, hargs, rfl, rfl, h0, r0⟩ := trodAll_cons hA
  obtain ⟨v1, vs1, d1, ds1, p1, q1, rfl, rfl, rfl, h1, r1⟩ := trodAll_cons r0
  obtain ⟨v2, vs2, d2, ds2, p2, q2, rfl, rfl, rfl, h2, r2⟩ := trodAll_cons r1
  obtain ⟨v3, vs3, d3, ds3, p3, q3, rfl, rfl, rfl, h3, r3⟩ := trodAll_cons r2
  obtain ⟨rfl, rfl, rfl⟩ := trodAll_nil r3
  obtain rfl : args = #[v0, v1, v2, v3] := by cases args; simp_all
  obtain ⟨rfl, rfl⟩ := trodVars_none hV
  have k0 := h0
  have lt0 : ∀ x ∈ p0, x.block < W.heap.size := by obtain ⟨m, hm⟩ := k0; exact DataW.trod_lt m _ _ _ hm
  have k1 := h1
  have lt1 : ∀ x ∈ p1, x.block < W.heap.size := by obtain ⟨m, hm⟩ := k1; exact DataW.trod_lt m _ _ _ hm
  have k2 := h2
  have lt2 : ∀ x ∈ p2, x.block < W.heap.size := by obtain ⟨m, hm⟩ := k2; exact DataW.trod_lt m _ _ _ hm
  have k3 := h3
  have lt3 : ∀ x ∈ p3, x.block < W.heap.size := by obtain ⟨m, hm⟩ := k3; exact DataW.trod_lt m _ _ _ hm
  obtain ⟨n0, rfl, wf0⟩ := open_int' Try.underlying3 (hval 0 3 _ rfl rfl) h0
  obtain ⟨a1, len1, cap1, rfl⟩ := okWide_slice Try.underlying22 (hval 1 22 _ rfl rfl)
  obtain ⟨fu1, hf1⟩ := h1
  obtain ⟨A1, bs1, c1, hcs1, rd1, hc1, hm1⟩ := open_u8s Try.underlying22 Try.underlying5 (by kernel_rfl) hf1
  simp [Value.cells] at hcs1
  obtain ⟨rfl, rfl, rfl⟩ := hcs1
  obtain ⟨m2, rfl, wf2⟩ := open_int' Try.underlying5 (hval 2 5 _ rfl rfl) h2
  obtain ⟨b2, rfl⟩ := u8_arg wf2
  obtain ⟨m3, rfl, wf3⟩ := open_int' Try.underlying5 (hval 3 5 _ rfl rfl) h3
  obtain ⟨b3, rfl⟩ := u8_arg wf3
  clear hA0 hval0
  refine (DeskNone_calls n0 a1 bs1 cap1 b2 b3 W rd1).mono fun e W' ⟨he, hh⟩ => ?_
  have bel := hh.below
  subst he
  exact ⟨_, rfl, _, _, _, [], _, [], hW', trodAll_mk1 (shut_bool Try.underlying4 _), (trodAll_cons_mk (Below.trod deskNone_laidOut (by kernel_rfl) (of_decide_eq_true (by kernel_rfl)) k0 bel lt0) (trodAll_cons_mk (Below.trod deskNone_laidOut (by kernel_rfl) (of_decide_eq_true (by kernel_rfl)) k1 bel lt1) (trodAll_cons_mk (Below.trod deskNone_laidOut (by kernel_rfl) (of_decide_eq_true (by kernel_rfl)) k2 bel lt2) (trodAll_cons_mk (Below.trod deskNone_laidOut (by kernel_rfl) (of_decide_eq_true (by kernel_rfl)) k3 bel lt3) trodAll_mk0)))), rfl, bel.frame _, fun h => by cases h⟩
theorem deskNone_over : Rows.deskNoneRow.holds Try.pinned (OpenSpec.ofChange Rows.deskNoneSpec) :=
  OpenClaim.holds_of_wide 5 Try.f5 rfl rfl rfl rfl rfl rfl rfl ⟨rfl, rfl, rfl, rfl, rfl⟩ rfl rfl rfl rfl rfl (by kernel_rfl) Try.func5 (by kernel_rfl)
    (of_decide_eq_true (by kernel_rfl)) (by unfold Func.isWrapper; first | (rw [if_pos (by decide +kernel)]; kernel_rfl) | (rw [if_neg (by decide +kernel)]; exact ⟨rfl, rfl⟩))
    (fun os started H enc _ => deskNone_lifted os started H enc)
theorem deskNone_proved : Rows.DeskNoneSaid := deskNone_over
end Go.Proofs.Ythcdelpdgkoioaa
