/- Part 2 of what deskPlays_proved stands on. -/
import Derived.Test.YthcdelpdgkoioaaZp1
set_option linter.unusedVariables false
set_option maxRecDepth 100000
namespace Go.Proofs.Ythcdelpdgkoioaa
open Go.RowKit
set_option maxHeartbeats 4000000 in
theorem next_calls (S : List Nat) (d room : Nat) (cl : Bool) (a0 a1 a2 : Lane) (Gg : List (Option Addr × Nat × Nat × TypeId × List Value)) (w : World) (h0 : Hp w S [.blk d [.chan (some a0.ch), .chan (some a1.ch), .chan (some a2.ch), .int .i64 (a0.p : Int), .int .i64 (a1.p : Int), .int .i64 (a2.p : Int), .bool cl] 52, .obj a0.ch (chO room a0.l cl a0.s a0.r), .obj a1.ch (chO room a1.l cl a1.s a1.r), .obj a2.ch (chO room a2.l cl a2.s a2.r), .bag Gg] w) (hz0 : a0.z) (hz1 : a1.z) (hz2 : a2.z) : Calls Try.prog 18 #[pt d 0] w fun e w' => e = .returned (.int .i64 (tkI a0 a1 a2)) ∧ Hp w S [.blk d [.chan (some a0.ch), .chan (some a1.ch), .chan (some a2.ch), .int .i64 (a0.p : Int), .int .i64 (a1.p : Int), .int .i64 (a2.p : Int), .bool cl] 52, .obj a0.ch (chO room a0.l cl a0.s a0.r), .obj a1.ch (chO room a1.l cl a1.s a1.r), .obj a2.ch (chO room a2.l cl a2.s a2.r), .bag Gg] w' := by
 refine calls_G (args := [pt d 0]) Try.func18 rfl Try.ntmps18 rfl ?_
 intro Q0 hRet hNor hPan
 have H := h0
 have H : Hp w S [.blk d [.chan (some a0.ch), .chan (some a1.ch), .chan (some a2.ch), .int .i64 (a0.p : Int), .int .i64 (a1.p : Int), .int .i64 (a2.p : Int), .bool cl] 52, .obj a0.ch (chO room a0.l cl a0.s a0.r), .obj a1.ch (chO room a1.l cl a1.s a1.r), .obj a2.ch (chO room a2.l cl a2.s a2.r), .bag Gg] w := H
 refine G.seqK fun K1 hK2 => ?_
 refine G.region ?_
 refine GL.run (j := 1) 1 [0] [(0, pt d 0)] (by kernel_rfl) rfl ?_
 refine GL.k rfl hK2 (fun _ _ h => h) ?_
 refine G.scope ?_
 refine G.seqK fun K3 hK4 => ?_
 refine G.region ?_
 refine GL.run (j := 1) 1 [0, 3] [(0, pt d 0), (3, .int .i64 (-1))] (by kernel_rfl) rfl ?_
 refine GL.k rfl hK4 (fun _ _ h => h) ?_
 refine G.seqK fun K5 hK6 => ?_
 refine G.labelK hK6 (fun _ _ h => h) ?_
 refine G.seqK fun K7 hK8 => ?_
 refine G.seqK fun K9 hK10 => ?_
 refine G.region ?_
 refine GL.run (j := 3) 3 [0, 3, 8] [(0, pt d 0), (3, .int .i64 (-1)), (8, pt d 0)] (by kernel_rfl) rfl ?_
 refine GL.sem (j := 4) (H.ldA (o := 0) (ty := 50) (m := 3) (sub := [.chan (some a0.ch), .chan (some a1.ch), .chan (some a2.ch)]) 0 rfl (by kernel_rfl) rfl rfl) [0, 3, 9] [(0, pt d 0), (3, .int .i64 (-1)), (9, .agg #[.chan (some a0.ch), .chan (some a1.ch), .chan (some a2.ch)])] (by kernel_rfl) (by kernel_rfl) rfl ?_
 refine GL.run (j := 5) 1 [0, 3, 9, 10] [(0, pt d 0), (3, .int .i64 (-1)), (9, .agg #[.chan (some a0.ch), .chan (some a1.ch), .chan (some a2.ch)]), (10, .int .i64 0)] (by kernel_rfl) rfl ?_
 refine GL.k rfl hK10 (fun _ _ h => h) ?_
 refine G.block ?_
 refine G.unroll 3 ?_
 refine G.seqK fun K11 hK12 => ?_
 refine G.region ?_
 refine GL.run (j := 1) 1 [0, 3, 9, 10, 11] [(0, pt d 0), (3, .int .i64 (-1)), (9, .agg #[.chan (some a0.ch), .chan (some a1.ch), .chan (some a2.ch)]), (10, .int .i64 0), (11, .bool true)] (by kernel_rfl) rfl ?_
 refine GL.k rfl hK12 (fun _ _ h => h) ?_
 refine G.seqK fun K13 hK14 => ?_
 refine G.yes rfl ?_
 refine G.skipK hK14 (fun _ _ h => h) ?_
 refine G.seqK fun K15 hK16 => ?_
 refine G.block ?_
 refine G.seqK fun K17 hK18 => ?_
 refine G.region ?_
 refine GL.run (j := 4) 4 [0, 3, 4, 5, 9, 10] [(0, pt d 0), (3, .int .i64 (-1)), (4, .int .i64 0), (5, .chan (some a0.ch)), (9, .agg #[.chan (some a0.ch), .chan (some a1.ch), .chan (some a2.ch)]), (10, .int .i64 0)] (by kernel_rfl) rfl ?_
 refine GL.k rfl hK18 (fun _ _ h => h) ?_
 refine G.block ?_
 refine G.seqK fun K19 hK20 => ?_
 refine G.region ?_
 refine GL.run (j := 1) 1 [0, 3, 4, 9, 10, 15] [(0, pt d 0), (3, .int .i64 (-1)), (4, .int .i64 0), (9, .agg #[.chan (some a0.ch), .chan (some a1.ch), .chan (some a2.ch)]), (10, .int .i64 0), (15, .chan (some a0.ch))] (by kernel_rfl) rfl ?_
 refine GL.sem (j := 2) (H.lenChan (P := Try.prog) (t := 49) (ty := 3) (l := a0.l) 1 rfl Try.underlying49) [0, 3, 4, 9, 10, 16] [(0, pt d 0), (3, .int .i64 (-1)), (4, .int .i64 0), (9, .agg #[.chan (some a0.ch), .chan (some a1.ch), .chan (some a2.ch)]), (10, .int .i64 0), (16, .int .i64 (a0.l.length : Int))] (by kernel_rfl) (by kernel_rfl) rfl ?_
 refine GL.run (j := 4) 2 [0, 3, 4, 9, 10, 14] [(0, pt d 0), (3, .int .i64 (-1)), (4, .int .i64 0), (9, .agg #[.chan (some a0.ch), .chan (some a1.ch), .chan (some a2.ch)]), (10, .int .i64 0), (14, .bool ((a0.l.length : Int) == 0))] (by kernel_rfl) rfl ?_
 refine GL.k rfl hK20 (fun _ _ h => h) ?_
 cases hb21 : ((a0.l.length : Int) == 0)
 · skip
   have hb21f := ne_of_beq_false hb21
   refine G.no rfl ?_
   refine G.seqK fun K22 hK23 => ?_
   refine G.region ?_
   refine GL.run (j := 5) 5 [0, 3, 4, 9, 10, 28] [(0, pt d 0), (3, .int .i64 (-1)), (4, .int .i64 0), (9, .agg #[.chan (some a0.ch), .chan (some a1.ch), .chan (some a2.ch)]), (10, .int .i64 0), (28, pt d 3)] (by kernel_rfl) rfl ?_
   refine GL.sem (j := 6) (H.ld (o := 3) (ty := 3) (v := .int .i64 (a0.p : Int)) 0 rfl (by kernel_rfl) rfl) [0, 3, 4, 9, 10, 29] [(0, pt d 0), (3, .int .i64 (-1)), (4, .int .i64 0), (9, .agg #[.chan (some a0.ch), .chan (some a1.ch), .chan (some a2.ch)]), (10, .int .i64 0), (29, .int .i64 (a0.p : Int))] (by kernel_rfl) (by kernel_rfl) rfl ?_
   refine GL.run (j := 8) 2 [0, 3, 4, 9, 10, 23] [(0, pt d 0), (3, .int .i64 (-1)), (4, .int .i64 0), (9, .agg #[.chan (some a0.ch), .chan (some a1.ch), .chan (some a2.ch)]), (10, .int .i64 0), (23, .bool (decide (4 ≤ (a0.p : Int))))] (by kernel_rfl) rfl ?_
   refine GL.k rfl hK23 (fun _ _ h => h) ?_
   cases hb24 : (decide (4 ≤ (a0.p : Int)))
   · skip
     have hb24f := of_decide_eq_false hb24
     refine G.no rfl ?_
     refine G.seqK fun K25 hK26 => ?_
     refine G.region ?_
     refine GL.run (j := 3) 3 [0, 3, 4, 9, 10, 32] [(0, pt d 0), (3, .int .i64 (-1)), (4, .int .i64 0), (9, .agg #[.chan (some a0.ch), .chan (some a1.ch), .chan (some a2.ch)]), (10, .int .i64 0), (32, .bool true)] (by kernel_rfl) rfl ?_
     refine GL.k rfl hK26 (fun _ _ h => h) ?_
     refine G.yes rfl ?_
     refine G.region ?_
     refine GL.run (j := 2) 2 [0, 3, 9, 10] [(0, pt d 0), (3, .int .i64 0), (9, .agg #[.chan (some a0.ch), .chan (some a1.ch), .chan (some a2.ch)]), (10, .int .i64 0)] (by kernel_rfl) rfl ?_
     refine GL.k rfl hK16 (fun _ _ h => h) ?_
     refine G.region ?_
     refine GL.run (j := 2) 2 [0, 3, 9, 10] [(0, pt d 0), (3, .int .i64 0), (9, .agg #[.chan (some a0.ch), .chan (some a1.ch), .chan (some a2.ch)]), (10, .int .i64 1)] (by kernel_rfl) rfl ?_
     refine GL.round rfl ?_
     refine G.seqK fun K27 hK28 => ?_
     refine G.region ?_
     refine GL.run (j := 1) 1 [0, 3, 9, 10, 11] [(0, pt d 0), (3, .int .i64 0), (9, .agg #[.chan (some a0.ch), .chan (some a1.ch), .chan (some a2.ch)]), (10, .int .i64 1), (11, .bool true)] (by kernel_rfl) rfl ?_
     refine GL.k rfl hK28 (fun _ _ h => h) ?_
     refine G.seqK fun K29 hK30 => ?_
     refine G.yes rfl ?_
     refine G.skipK hK30 (fun _ _ h => h) ?_
     refine G.seqK fun K31 hK32 => ?_
     refine G.block ?_
     refine G.seqK fun K33 hK34 => ?_
     refine G.region ?_
     refine GL.run (j := 4) 4 [0, 3, 4, 5, 9, 10] [(0, pt d 0), (3, .int .i64 0), (4, .int .i64 1), (5, .chan (some a1.ch)), (9, .agg #[.chan (some a0.ch), .chan (some a1.ch), .chan (some a2.ch)]), (10, .int .i64 1)] (by kernel_rfl) rfl ?_
     refine GL.k rfl hK34 (fun _ _ h => h) ?_
     refine G.block ?_
     refine G.seqK fun K35 hK36 => ?_
     refine G.region ?_
     refine GL.run (j := 1) 1 [0, 3, 4, 9, 10, 15] [(0, pt d 0), (3, .int .i64 0), (4, .int .i64 1), (9, .agg #[.chan (some a0.ch), .chan (some a1.ch), .chan (some a2.ch)]), (10, .int .i64 1), (15, .chan (some a1.ch))] (by kernel_rfl) rfl ?_
     refine GL.sem (j := 2) (H.lenChan (P := Try.prog) (t := 49) (ty := 3) (l := a1.l) 2 rfl Try.underlying49) [0, 3, 4, 9, 10, 16] [(0, pt d 0), (3, .int .i64 0), (4, .int .i64 1), (9, .agg #[.chan (some a0.ch), .chan (some a1.ch), .chan (some a2.ch)]), (10, .int .i64 1), (16, .int .i64 (a1.l.length : Int))] (by kernel_rfl) (by kernel_rfl) rfl ?_
     refine GL.run (j := 4) 2 [0, 3, 4, 9, 10, 14] [(0, pt d 0), (3, .int .i64 0), (4, .int .i64 1), (9, .agg #[.chan (some a0.ch), .chan (some a1.ch), .chan (some a2.ch)]), (10, .int .i64 1), (14, .bool ((a1.l.length : Int) == 0))] (by kernel_rfl) rfl ?_
     refine GL.k rfl hK36 (fun _ _ h => h) ?_
     cases hb37 : ((a1.l.length : Int) == 0)
     · skip
       have hb37f := ne_of_beq_false hb37
       refine G.no rfl ?_
       refine G.seqK fun K38 hK39 => ?_
       refine G.region ?_
       refine GL.run (j := 5) 5 [0, 3, 4, 9, 10, 28] [(0, pt d 0), (3, .int .i64 0), (4, .int .i64 1), (9, .agg #[.chan (some a0.ch), .chan (some a1.ch), .chan (some a2.ch)]), (10, .int .i64 1), (28, pt d 4)] (by kernel_rfl) rfl ?_
       refine GL.sem (j := 6) (H.ld (o := 4) (ty := 3) (v := .int .i64 (a1.p : Int)) 0 rfl (by kernel_rfl) rfl) [0, 3, 4, 9, 10, 29] [(0, pt d 0), (3, .int .i64 0), (4, .int .i64 1), (9, .agg #[.chan (some a0.ch), .chan (some a1.ch), .chan (some a2.ch)]), (10, .int .i64 1), (29, .int .i64 (a1.p : Int))] (by kernel_rfl) (by kernel_rfl) rfl ?_
       refine GL.run (j := 8) 2 [0, 3, 4, 9, 10, 23] [(0, pt d 0), (3, .int .i64 0), (4, .int .i64 1), (9, .agg #[.chan (some a0.ch), .chan (some a1.ch), .chan (some a2.ch)]), (10, .int .i64 1), (23, .bool (decide (4 ≤ (a1.p : Int))))] (by kernel_rfl) rfl ?_
       refine GL.k rfl hK39 (fun _ _ h => h) ?_
       cases hb40 : (decide (4 ≤ (a1.p : Int)))
       · skip
         have hb40f := of_decide_eq_false hb40
         refine G.no rfl ?_
         refine G.seqK fun K41 hK42 => ?_
         refine G.region ?_
         refine GL.run (j := 3) 3 [0, 3, 4, 9, 10, 32] [(0, pt d 0), (3, .int .i64 0), (4, .int .i64 1), (9, .agg #[.chan (some a0.ch), .chan (some a1.ch), .chan (some a2.ch)]), (10, .int .i64 1), (32, .bool false)] (by kernel_rfl) rfl ?_
         refine GL.k rfl hK42 (fun _ _ h => h) ?_
         refine G.no rfl ?_
         refine G.skipK hK32 (fun _ _ h => h) ?_
         refine G.region ?_
         refine GL.run (j := 2) 2 [0, 3, 9, 10] [(0, pt d 0), (3, .int .i64 0), (9, .agg #[.chan (some a0.ch), .chan (some a1.ch), .chan (some a2.ch)]), (10, .int .i64 2)] (by kernel_rfl) rfl ?_
         refine GL.round rfl ?_
         refine G.seqK fun K43 hK44 => ?_
         refine G.region ?_
         refine GL.run (j := 1) 1 [0, 3, 9, 10, 11] [(0, pt d 0), (3, .int .i64 0), (9, .agg #[.chan (some a0.ch), .chan (some a1.ch), .chan (some a2.ch)]), (10, .int .i64 2), (11, .bool true)] (by kernel_rfl) rfl ?_
         refine GL.k rfl hK44 (fun _ _ h => h) ?_
         refine G.seqK fun K45 hK46 => ?_
         refine G.yes rfl ?_
         refine G.skipK hK46 (fun _ _ h => h) ?_
         refine G.seqK fun K47 hK48 => ?_
         refine G.block ?_
         refine G.seqK fun K49 hK50 => ?_
         refine G.region ?_
         refine GL.run (j := 4) 4 [0, 3, 4, 5, 9, 10] [(0, pt d 0), (3, .int .i64 0), (4, .int .i64 2), (5, .chan (some a2.ch)), (9, .agg #[.chan (some a0.ch), .chan (some a1.ch), .chan (some a2.ch)]), (10, .int .i64 2)] (by kernel_rfl) rfl ?_
         refine GL.k rfl hK50 (fun _ _ h => h) ?_
         refine G.block ?_
         refine G.seqK fun K51 hK52 => ?_
         refine G.region ?_
         refine GL.run (j := 1) 1 [0, 3, 4, 9, 10, 15] [(0, pt d 0), (3, .int .i64 0), (4, .int .i64 2), (9, .agg #[.chan (some a0.ch), .chan (some a1.ch), .chan (some a2.ch)]), (10, .int .i64 2), (15, .chan (some a2.ch))] (by kernel_rfl) rfl ?_
         refine GL.sem (j := 2) (H.lenChan (P := Try.prog) (t := 49) (ty := 3) (l := a2.l) 3 rfl Try.underlying49) [0, 3, 4, 9, 10, 16] [(0, pt d 0), (3, .int .i64 0), (4, .int .i64 2), (9, .agg #[.chan (some a0.ch), .chan (some a1.ch), .chan (some a2.ch)]), (10, .int .i64 2), (16, .int .i64 (a2.l.length : Int))] (by kernel_rfl) (by kernel_rfl) rfl ?_
         refine GL.run (j := 4) 2 [0, 3, 4, 9, 10, 14] [(0, pt d 0), (3, .int .i64 0), (4, .int .i64 2), (9, .agg #[.chan (some a0.ch), .chan (some a1.ch), .chan (some a2.ch)]), (10, .int .i64 2), (14, .bool ((a2.l.length : Int) == 0))] (by kernel_rfl) rfl ?_
         refine GL.k rfl hK52 (fun _ _ h => h) ?_
         cases hb53 : ((a2.l.length : Int) == 0)
         · skip
           have hb53f := ne_of_beq_false hb53
           refine G.no rfl ?_
           refine G.seqK fun K54 hK55 => ?_
           refine G.region ?_
           refine GL.run (j := 5) 5 [0, 3, 4, 9, 10, 28] [(0, pt d 0), (3, .int .i64 0), (4, .int .i64 2), (9, .agg #[.chan (some a0.ch), .chan (some a1.ch), .chan (some a2.ch)]), (10, .int .i64 2), (28, pt d 5)] (by kernel_rfl) rfl ?_
           refine GL.sem (j := 6) (H.ld (o := 5) (ty := 3) (v := .int .i64 (a2.p : Int)) 0 rfl (by kernel_rfl) rfl) [0, 3, 4, 9, 10, 29] [(0, pt d 0), (3, .int .i64 0), (4, .int .i64 2), (9, .agg #[.chan (some a0.ch), .chan (some a1.ch), .chan (some a2.ch)]), (10, .int .i64 2), (29, .int .i64 (a2.p : Int))] (by kernel_rfl) (by kernel_rfl) rfl ?_
           refine GL.run (j := 8) 2 [0, 3, 4, 9, 10, 23] [(0, pt d 0), (3, .int .i64 0), (4, .int .i64 2), (9, .agg #[.chan (some a0.ch), .chan (some a1.ch), .chan (some a2.ch)]), (10, .int .i64 2), (23, .bool (decide (4 ≤ (a2.p : Int))))] (by kernel_rfl) rfl ?_
           refine GL.k rfl hK55 (fun _ _ h => h) ?_
           cases hb56 : (decide (4 ≤ (a2.p : Int)))
           · skip
             have hb56f := of_decide_eq_false hb56
             refine G.no rfl ?_
             refine G.seqK fun K57 hK58 => ?_
             refine G.region ?_
             refine GL.run (j := 3) 3 [0, 3, 4, 9, 10, 32] [(0, pt d 0), (3, .int .i64 0), (4, .int .i64 2), (9, .agg #[.chan (some a0.ch), .chan (some a1.ch), .chan (some a2.ch)]), (10, .int .i64 2), (32, .bool false)] (by kernel_rfl) rfl ?_
             refine GL.k rfl hK58 (fun _ _ h => h) ?_
             refine G.no rfl ?_
             refine G.skipK hK48 (fun _ _ h => h) ?_
             refine G.region ?_
             refine GL.run (j := 2) 2 [0, 3, 9, 10] [(0, pt d 0), (3, .int .i64 0), (9, .agg #[.chan (some a0.ch), .chan (some a1.ch), .chan (some a2.ch)]), (10, .int .i64 3)] (by kernel_rfl) rfl ?_
             refine GL.round rfl ?_
             refine G.seqK fun K59 hK60 => ?_
             refine G.region ?_
             refine GL.run (j := 1) 1 [0, 3, 9, 10, 11] [(0, pt d 0), (3, .int .i64 0), (9, .agg #[.chan (some a0.ch), .chan (some a1.ch), .chan (some a2.ch)]), (10, .int .i64 3), (11, .bool false)] (by kernel_rfl) rfl ?_
             refine GL.k rfl hK60 (fun _ _ h => h) ?_
             refine G.seqK fun K61 hK62 => ?_
             refine G.no rfl ?_
             refine G.exitK hK8 (fun _ _ h => h) ?_
             refine G.seqK fun K63 hK64 => ?_
             refine G.region ?_
             refine GL.run (j := 2) 2 [2] [(2, .int .i64 0)] (by kernel_rfl) rfl ?_
             refine GL.k rfl hK64 (fun _ _ h => h) ?_
             refine G.ret ?_
             intro F_ hF_ hM_
             refine hRet _ _ (bodyPost_1 rfl (RV.tmp rfl) ?_ F_ hF_ hM_)
             have e0 : tkN a0 a1 a2 = 0 := by
               unfold tkN
               repeat' split
               all_goals omega
             rw [show tkI a0 a1 a2 = 0 by unfold tkI; rw [e0]; rfl]
             exact ⟨rfl, H⟩
           · skip
             have hb56f := of_decide_eq_true hb56
             refine G.yes rfl ?_
             refine G.seqK fun K65 hK66 => ?_
             refine G.region ?_
             refine GL.run (j := 2) 2 [2] [(2, .int .i64 2)] (by kernel_rfl) rfl ?_
             refine GL.k rfl hK66 (fun _ _ h => h) ?_
             refine G.ret ?_
             intro F_ hF_ hM_
             refine hRet _ _ (bodyPost_1 rfl (RV.tmp rfl) ?_ F_ hF_ hM_)
             have e0 : tkN a0 a1 a2 = 2 := by
               unfold tkN
               repeat' split
               all_goals omega
             rw [show tkI a0 a1 a2 = 2 by unfold tkI; rw [e0]; rfl]
             exact ⟨rfl, H⟩
         · skip
           have hb53f := eq_of_beq hb53
           refine G.yes rfl ?_
           refine G.seqK fun K67 hK68 => ?_
           refine G.region ?_
           refine GL.run (j := 5) 5 [0, 3, 9, 10, 22] [(0, pt d 0), (3, .int .i64 0), (9, .agg #[.chan (some a0.ch), .chan (some a1.ch), .chan (some a2.ch)]), (10, .int .i64 2), (22, pt d 5)] (by kernel_rfl) rfl ?_
           obtain ⟨w69, r70, H71⟩ := H.st (P := Try.prog) (o := 5) (ty := 3) (v := .int .i64 0) 0 rfl (by kernel_rfl) (by simp) rfl
           have H71 : Hp w S [.blk d [.chan (some a0.ch), .chan (some a1.ch), .chan (some a2.ch), .int .i64 (a0.p : Int), .int .i64 (a1.p : Int), .int .i64 0, .bool cl] 52, .obj a0.ch (chO room a0.l cl a0.s a0.r), .obj a1.ch (chO room a1.l cl a1.s a1.r), .obj a2.ch (chO room a2.l cl a2.s a2.r), .bag Gg] w69 := H71
           refine GL.semU (j := 6) r70 [0, 3, 9, 10] [(0, pt d 0), (3, .int .i64 0), (9, .agg #[.chan (some a0.ch), .chan (some a1.ch), .chan (some a2.ch)]), (10, .int .i64 2)] (by kernel_rfl) rfl rfl rfl ?_
           refine GL.k rfl hK68 (fun _ _ h => h) ?_
           refine G.exitK hK48 (fun _ _ h => h) ?_
           refine G.region ?_
           refine GL.run (j := 2) 2 [0, 3, 9, 10] [(0, pt d 0), (3, .int .i64 0), (9, .agg #[.chan (some a0.ch), .chan (some a1.ch), .chan (some a2.ch)]), (10, .int .i64 3)] (by kernel_rfl) rfl ?_
           refine GL.round rfl ?_
           refine G.seqK fun K72 hK73 => ?_
           refine G.region ?_
           refine GL.run (j := 1) 1 [0, 3, 9, 10, 11] [(0, pt d 0), (3, .int .i64 0), (9, .agg #[.chan (some a0.ch), .chan (some a1.ch), .chan (some a2.ch)]), (10, .int .i64 3), (11, .bool false)] (by kernel_rfl) rfl ?_
           refine GL.k rfl hK73 (fun _ _ h => h) ?_
           refine G.seqK fun K74 hK75 => ?_
           refine G.no rfl ?_
           refine G.exitK hK8 (fun _ _ h => h) ?_
           refine G.seqK fun K76 hK77 => ?_
           refine G.region ?_
           refine GL.run (j := 2) 2 [2] [(2, .int .i64 0)] (by kernel_rfl) rfl ?_
           refine GL.k rfl hK77 (fun _ _ h => h) ?_
           refine G.ret ?_
           intro F_ hF_ hM_
           refine hRet _ _ (bodyPost_1 rfl (RV.tmp rfl) ?_ F_ hF_ hM_)
           have e0 : tkN a0 a1 a2 = 0 := by
             unfold tkN
             repeat' split
             all_goals omega
           rw [show tkI a0 a1 a2 = 0 by unfold tkI; rw [e0]; rfl]
           have HZ : Hp w S [.blk d [.chan (some a0.ch), .chan (some a1.ch), .chan (some a2.ch), .int .i64 (a0.p : Int), .int .i64 (a1.p : Int), .int .i64 (a2.p : Int), .bool cl] 52, .obj a0.ch (chO room a0.l cl a0.s a0.r), .obj a1.ch (chO room a1.l cl a1.s a1.r), .obj a2.ch (chO room a2.l cl a2.s a2.r), .bag Gg] w69 := by rw [show a2.p = 0 from hz2.1 (by omega)]; exact H71
           exact ⟨rfl, HZ⟩
       · skip
         have hb40f := of_decide_eq_true hb40
         refine G.yes rfl ?_
         refine G.seqK fun K78 hK79 => ?_
         refine G.region ?_
         refine GL.run (j := 2) 2 [2] [(2, .int .i64 1)] (by kernel_rfl) rfl ?_
         refine GL.k rfl hK79 (fun _ _ h => h) ?_
         refine G.ret ?_
         intro F_ hF_ hM_
         refine hRet _ _ (bodyPost_1 rfl (RV.tmp rfl) ?_ F_ hF_ hM_)
         have e0 : tkN a0 a1 a2 = 1 := by
           unfold tkN
           repeat' split
           all_goals omega
         rw [show tkI a0 a1 a2 = 1 by unfold tkI; rw [e0]; rfl]
         exact ⟨rfl, H⟩
     · skip
       have hb37f := eq_of_beq hb37
       refine G.yes rfl ?_
       refine G.seqK fun K80 hK81 => ?_
       refine G.region ?_
       refine GL.run (j := 5) 5 [0, 3, 9, 10, 22] [(0, pt d 0), (3, .int .i64 0), (9, .agg #[.chan (some a0.ch), .chan (some a1.ch), .chan (some a2.ch)]), (10, .int .i64 1), (22, pt d 4)] (by kernel_rfl) rfl ?_
       obtain ⟨w82, r83, H84⟩ := H.st (P := Try.prog) (o := 4) (ty := 3) (v := .int .i64 0) 0 rfl (by kernel_rfl) (by simp) rfl
       have H84 : Hp w S [.blk d [.chan (some a0.ch), .chan (some a1.ch), .chan (some a2.ch), .int .i64 (a0.p : Int), .int .i64 0, .int .i64 (a2.p : Int), .bool cl] 52, .obj a0.ch (chO room a0.l cl a0.s a0.r), .obj a1.ch (chO room a1.l cl a1.s a1.r), .obj a2.ch (chO room a2.l cl a2.s a2.r), .bag Gg] w82 := H84
       refine GL.semU (j := 6) r83 [0, 3, 9, 10] [(0, pt d 0), (3, .int .i64 0), (9, .agg #[.chan (some a0.ch), .chan (some a1.ch), .chan (some a2.ch)]), (10, .int .i64 1)] (by kernel_rfl) rfl rfl rfl ?_
       refine GL.k rfl hK81 (fun _ _ h => h) ?_
       refine G.exitK hK32 (fun _ _ h => h) ?_
       refine G.region ?_
       refine GL.run (j := 2) 2 [0, 3, 9, 10] [(0, pt d 0), (3, .int .i64 0), (9, .agg #[.chan (some a0.ch), .chan (some a1.ch), .chan (some a2.ch)]), (10, .int .i64 2)] (by kernel_rfl) rfl ?_
       refine GL.round rfl ?_
       refine G.seqK fun K85 hK86 => ?_
       refine G.region ?_
       refine GL.run (j := 1) 1 [0, 3, 9, 10, 11] [(0, pt d 0), (3, .int .i64 0), (9, .agg #[.chan (some a0.ch), .chan (some a1.ch), .chan (some a2.ch)]), (10, .int .i64 2), (11, .bool true)] (by kernel_rfl) rfl ?_
       refine GL.k rfl hK86 (fun _ _ h => h) ?_
       refine G.seqK fun K87 hK88 => ?_
       refine G.yes rfl ?_
       refine G.skipK hK88 (fun _ _ h => h) ?_
       refine G.seqK fun K89 hK90 => ?_
       refine G.block ?_
       refine G.seqK fun K91 hK92 => ?_
       refine G.region ?_
       refine GL.run (j := 4) 4 [0, 3, 4, 5, 9, 10] [(0, pt d 0), (3, .int .i64 0), (4, .int .i64 2), (5, .chan (some a2.ch)), (9, .agg #[.chan (some a0.ch), .chan (some a1.ch), .chan (some a2.ch)]), (10, .int .i64 2)] (by kernel_rfl) rfl ?_
       refine GL.k rfl hK92 (fun _ _ h => h) ?_
       refine G.block ?_
       refine G.seqK fun K93 hK94 => ?_
       refine G.region ?_
       refine GL.run (j := 1) 1 [0, 3, 4, 9, 10, 15] [(0, pt d 0), (3, .int .i64 0), (4, .int .i64 2), (9, .agg #[.chan (some a0.ch), .chan (some a1.ch), .chan (some a2.ch)]), (10, .int .i64 2), (15, .chan (some a2.ch))] (by kernel_rfl) rfl ?_
       refine GL.sem (j := 2) (H84.lenChan (P := Try.prog) (t := 49) (ty := 3) (l := a2.l) 3 rfl Try.underlying49) [0, 3, 4, 9, 10, 16] [(0, pt d 0), (3, .int .i64 0), (4, .int .i64 2), (9, .agg #[.chan (some a0.ch), .chan (some a1.ch), .chan (some a2.ch)]), (10, .int .i64 2), (16, .int .i64 (a2.l.length : Int))] (by kernel_rfl) (by kernel_rfl) rfl ?_
       refine GL.run (j := 4) 2 [0, 3, 4, 9, 10, 14] [(0, pt d 0), (3, .int .i64 0), (4, .int .i64 2), (9, .agg #[.chan (some a0.ch), .chan (some a1.ch), .chan (some a2.ch)]), (10, .int .i64 2), (14, .bool ((a2.l.length : Int) == 0))] (by kernel_rfl) rfl ?_
       refine GL.k rfl hK94 (fun _ _ h => h) ?_
       cases hb95 : ((a2.l.length : Int) == 0)
       · skip
         have hb95f := ne_of_beq_false hb95
         refine G.no rfl ?_
         refine G.seqK fun K96 hK97 => ?_
         refine G.region ?_
         refine GL.run (j := 5) 5 [0, 3, 4, 9, 10, 28] [(0, pt d 0), (3, .int .i64 0), (4, .int .i64 2), (9, .agg #[.chan (some a0.ch), .chan (some a1.ch), .chan (some a2.ch)]), (10, .int .i64 2), (28, pt d 5)] (by kernel_rfl) rfl ?_
         refine GL.sem (j := 6) (H84.ld (o := 5) (ty := 3) (v := .int .i64 (a2.p : Int)) 0 rfl (by kernel_rfl) rfl) [0, 3, 4, 9, 10, 29] [(0, pt d 0), (3, .int .i64 0), (4, .int .i64 2), (9, .agg #[.chan (some a0.ch), .chan (some a1.ch), .chan (some a2.ch)]), (10, .int .i64 2), (29, .int .i64 (a2.p : Int))] (by kernel_rfl) (by kernel_rfl) rfl ?_
         refine GL.run (j := 8) 2 [0, 3, 4, 9, 10, 23] [(0, pt d 0), (3, .int .i64 0), (4, .int .i64 2), (9, .agg #[.chan (some a0.ch), .chan (some a1.ch), .chan (some a2.ch)]), (10, .int .i64 2), (23, .bool (decide (4 ≤ (a2.p : Int))))] (by kernel_rfl) rfl ?_
         refine GL.k rfl hK97 (fun _ _ h => h) ?_
         cases hb98 : (decide (4 ≤ (a2.p : Int)))
         · skip
           have hb98f := of_decide_eq_false hb98
           refine G.no rfl ?_
           refine G.seqK fun K99 hK100 => ?_
           refine G.region ?_
           refine GL.run (j := 3) 3 [0, 3, 4, 9, 10, 32] [(0, pt d 0), (3, .int .i64 0), (4, .int .i64 2), (9, .agg #[.chan (some a0.ch), .chan (some a1.ch), .chan (some a2.ch)]), (10, .int .i64 2), (32, .bool false)] (by kernel_rfl) rfl ?_
           refine GL.k rfl hK100 (fun _ _ h => h) ?_
           refine G.no rfl ?_
           refine G.skipK hK90 (fun _ _ h => h) ?_
           refine G.region ?_
           refine GL.run (j := 2) 2 [0, 3, 9, 10] [(0, pt d 0), (3, .int .i64 0), (9, .agg #[.chan (some a0.ch), .chan (some a1.ch), .chan (some a2.ch)]), (10, .int .i64 3)] (by kernel_rfl) rfl ?_
           refine GL.round rfl ?_
           refine G.seqK fun K101 hK102 => ?_
           refine G.region ?_
           refine GL.run (j := 1) 1 [0, 3, 9, 10, 11] [(0, pt d 0), (3, .int .i64 0), (9, .agg #[.chan (some a0.ch), .chan (some a1.ch), .chan (some a2.ch)]), (10, .int .i64 3), (11, .bool false)] (by kernel_rfl) rfl ?_
           refine GL.k rfl hK102 (fun _ _ h => h) ?_
           refine G.seqK fun K103 hK104 => ?_
           refine G.no rfl ?_
           refine G.exitK hK8 (fun _ _ h => h) ?_
           refine G.seqK fun K105 hK106 => ?_
           refine G.region ?_
           refine GL.run (j := 2) 2 [2] [(2, .int .i64 0)] (by kernel_rfl) rfl ?_
           refine GL.k rfl hK106 (fun _ _ h => h) ?_
           refine G.ret ?_
           intro F_ hF_ hM_
           refine hRet _ _ (bodyPost_1 rfl (RV.tmp rfl) ?_ F_ hF_ hM_)
           have e0 : tkN a0 a1 a2 = 0 := by
             unfold tkN
             repeat' split
             all_goals omega
           rw [show tkI a0 a1 a2 = 0 by unfold tkI; rw [e0]; rfl]
           have HZ : Hp w S [.blk d [.chan (some a0.ch), .chan (some a1.ch), .chan (some a2.ch), .int .i64 (a0.p : Int), .int .i64 (a1.p : Int), .int .i64 (a2.p : Int), .bool cl] 52, .obj a0.ch (chO room a0.l cl a0.s a0.r), .obj a1.ch (chO room a1.l cl a1.s a1.r), .obj a2.ch (chO room a2.l cl a2.s a2.r), .bag Gg] w82 := by rw [show a1.p = 0 from hz1.1 (by omega)]; exact H84
           exact ⟨rfl, HZ⟩
         · skip
           have hb98f := of_decide_eq_true hb98
           refine G.yes rfl ?_
           refine G.seqK fun K107 hK108 => ?_
           refine G.region ?_
           refine GL.run (j := 2) 2 [2] [(2, .int .i64 2)] (by kernel_rfl) rfl ?_
           refine GL.k rfl hK108 (fun _ _ h => h) ?_
           refine G.ret ?_
           intro F_ hF_ hM_
           refine hRet _ _ (bodyPost_1 rfl (RV.tmp rfl) ?_ F_ hF_ hM_)
           have e0 : tkN a0 a1 a2 = 2 := by
             unfold tkN
             repeat' split
             all_goals omega
           rw [show tkI a0 a1 a2 = 2 by unfold tkI; rw [e0]; rfl]
           have HZ : Hp w S [.blk d [.chan (some a0.ch), .chan (some a1.ch), .chan (some a2.ch), .int .i64 (a0.p : Int), .int .i64 (a1.p : Int), .int .i64 (a2.p : Int), .bool cl] 52, .obj a0.ch (chO room a0.l cl a0.s a0.r), .obj a1.ch (chO room a1.l cl a1.s a1.r), .obj a2.ch (chO room a2.l cl a2.s a2.r), .bag Gg] w82 := by rw [show a1.p = 0 from hz1.1 (by omega)]; exact H84
           exact ⟨rfl, HZ⟩
       · skip
         have hb95f := eq_of_beq hb95
         refine G.yes rfl ?_
         refine G.seqK fun K109 hK110 => ?_
         refine G.region ?_
         refine GL.run (j := 5) 5 [0, 3, 9, 10, 22] [(0, pt d 0), (3, .int .i64 0), (9, .agg #[.chan (some a0.ch), .chan (some a1.ch), .chan (some a2.ch)]), (10, .int .i64 2), (22, pt d 5)] (by kernel_rfl) rfl ?_
         obtain ⟨w111, r112, H113⟩ := H84.st (P := Try.prog) (o := 5) (ty := 3) (v := .int .i64 0) 0 rfl (by kernel_rfl) (by simp) rfl
         have H113 : Hp w S [.blk d [.chan (some a0.ch), .chan (some a1.ch), .chan (some a2.ch), .int .i64 (a0.p : Int), .int .i64 0, .int .i64 0, .bool cl] 52, .obj a0.ch (chO room a0.l cl a0.s a0.r), .obj a1.ch (chO room a1.l cl a1.s a1.r), .obj a2.ch (chO room a2.l cl a2.s a2.r), .bag Gg] w111 := H113
         refine GL.semU (j := 6) r112 [0, 3, 9, 10] [(0, pt d 0), (3, .int .i64 0), (9, .agg #[.chan (some a0.ch), .chan (some a1.ch), .chan (some a2.ch)]), (10, .int .i64 2)] (by kernel_rfl) rfl rfl rfl ?_
         refine GL.k rfl hK110 (fun _ _ h => h) ?_
         refine G.exitK hK90 (fun _ _ h => h) ?_
         refine G.region ?_
         refine GL.run (j := 2) 2 [0, 3, 9, 10] [(0, pt d 0), (3, .int .i64 0), (9, .agg #[.chan (some a0.ch), .chan (some a1.ch), .chan (some a2.ch)]), (10, .int .i64 3)] (by kernel_rfl) rfl ?_
         refine GL.round rfl ?_
         refine G.seqK fun K114 hK115 => ?_
         refine G.region ?_
         refine GL.run (j := 1) 1 [0, 3, 9, 10, 11] [(0, pt d 0), (3, .int .i64 0), (9, .agg #[.chan (some a0.ch), .chan (some a1.ch), .chan (some a2.ch)]), (10, .int .i64 3), (11, .bool false)] (by kernel_rfl) rfl ?_
         refine GL.k rfl hK115 (fun _ _ h => h) ?_
         refine G.seqK fun K116 hK117 => ?_
         refine G.no rfl ?_
         refine G.exitK hK8 (fun _ _ h => h) ?_
         refine G.seqK fun K118 hK119 => ?_
         refine G.region ?_
         refine GL.run (j := 2) 2 [2] [(2, .int .i64 0)] (by kernel_rfl) rfl ?_
         refine GL.k rfl hK119 (fun _ _ h => h) ?_
         refine G.ret ?_
         intro F_ hF_ hM_
         refine hRet _ _ (bodyPost_1 rfl (RV.tmp rfl) ?_ F_ hF_ hM_)
         have e0 : tkN a0 a1 a2 = 0 := by
           unfold tkN
           repeat' split
           all_goals omega
         rw [show tkI a0 a1 a2 = 0 by unfold tkI; rw [e0]; rfl]
         have HZ : Hp w S [.blk d [.chan (some a0.ch), .chan (some a1.ch), .chan (some a2.ch), .int .i64 (a0.p : Int), .int .i64 (a1.p : Int), .int .i64 (a2.p : Int), .bool cl] 52, .obj a0.ch (chO room a0.l cl a0.s a0.r), .obj a1.ch (chO room a1.l cl a1.s a1.r), .obj a2.ch (chO room a2.l cl a2.s a2.r), .bag Gg] w111 := by rw [show a1.p = 0 from hz1.1 (by omega), show a2.p = 0 from hz2.1 (by omega)]; exact H113
         exact ⟨rfl, HZ⟩
   · skip
     have hb24f := of_decide_eq_true hb24
     refine G.yes rfl ?_
     refine G.seqK fun K120 hK121 => ?_
     refine G.region ?_
     refine GL.run (j := 2) 2 [2] [(2, .int .i64 0)] (by kernel_rfl) rfl ?_
     refine GL.k rfl hK121 (fun _ _ h => h) ?_
     refine G.ret ?_
     intro F_ hF_ hM_
     refine hRet _ _ (bodyPost_1 rfl (RV.tmp rfl) ?_ F_ hF_ hM_)
     have e0 : tkN a0 a1 a2 = 0 := by
       unfold tkN
       repeat' split
       all_goals omega
     rw [show tkI a0 a1 a2 = 0 by unfold tkI; rw [e0]; rfl]
     exact ⟨rfl, H⟩
 · skip
   have hb21f := eq_of_beq hb21
   refine G.yes rfl ?_
   refine G.seqK fun K122 hK123 => ?_
   refine G.region ?_
   refine GL.run (j := 5) 5 [0, 3, 9, 10, 22] [(0, pt d 0), (3, .int .i64 (-1)), (9, .agg #[.chan (some a0.ch), .chan (some a1.ch), .chan (some a2.ch)]), (10, .int .i64 0), (22, pt d 3)] (by kernel_rfl) rfl ?_
   obtain ⟨w124, r125, H126⟩ := H.st (P := Try.prog) (o := 3) (ty := 3) (v := .int .i64 0) 0 rfl (by kernel_rfl) (by simp) rfl
   have H126 : Hp w S [.blk d [.chan (some a0.ch), .chan (some a1.ch), .chan (some a2.ch), .int .i64 0, .int .i64 (a1.p : Int), .int .i64 (a2.p : Int), .bool cl] 52, .obj a0.ch (chO room a0.l cl a0.s a0.r), .obj a1.ch (chO room a1.l cl a1.s a1.r), .obj a2.ch (chO room a2.l cl a2.s a2.r), .bag Gg] w124 := H126
   refine GL.semU (j := 6) r125 [0, 3, 9, 10] [(0, pt d 0), (3, .int .i64 (-1)), (9, .agg #[.chan (some a0.ch), .chan (some a1.ch), .chan (some a2.ch)]), (10, .int .i64 0)] (by kernel_rfl) rfl rfl rfl ?_
   refine GL.k rfl hK123 (fun _ _ h => h) ?_
   refine G.exitK hK16 (fun _ _ h => h) ?_
   refine G.region ?_
   refine GL.run (j := 2) 2 [0, 3, 9, 10] [(0, pt d 0), (3, .int .i64 (-1)), (9, .agg #[.chan (some a0.ch), .chan (some a1.ch), .chan (some a2.ch)]), (10, .int .i64 1)] (by kernel_rfl) rfl ?_
   refine GL.round rfl ?_
   refine G.seqK fun K127 hK128 => ?_
   refine G.region ?_
   refine GL.run (j := 1) 1 [0, 3, 9, 10, 11] [(0, pt d 0), (3, .int .i64 (-1)), (9, .agg #[.chan (some a0.ch), .chan (some a1.ch), .chan (some a2.ch)]), (10, .int .i64 1), (11, .bool true)] (by kernel_rfl) rfl ?_
   refine GL.k rfl hK128 (fun _ _ h => h) ?_
   refine G.seqK fun K129 hK130 => ?_
   refine G.yes rfl ?_
   refine G.skipK hK130 (fun _ _ h => h) ?_
   refine G.seqK fun K131 hK132 => ?_
   refine G.block ?_
   refine G.seqK fun K133 hK134 => ?_
   refine G.region ?_
   refine GL.run (j := 4) 4 [0, 3, 4, 5, 9, 10] [(0, pt d 0), (3, .int .i64 (-1)), (4, .int .i64 1), (5, .chan (some a1.ch)), (9, .agg #[.chan (some a0.ch), .chan (some a1.ch), .chan (some a2.ch)]), (10, .int .i64 1)] (by kernel_rfl) rfl ?_
   refine GL.k rfl hK134 (fun _ _ h => h) ?_
   refine G.block ?_
   refine G.seqK fun K135 hK136 => ?_
   refine G.region ?_
   refine GL.run (j := 1) 1 [0, 3, 4, 9, 10, 15] [(0, pt d 0), (3, .int .i64 (-1)), (4, .int .i64 1), (9, .agg #[.chan (some a0.ch), .chan (some a1.ch), .chan (some a2.ch)]), (10, .int .i64 1), (15, .chan (some a1.ch))] (by kernel_rfl) rfl ?_
   refine GL.sem (j := 2) (H126.lenChan (P := Try.prog) (t := 49) (ty := 3) (l := a1.l) 2 rfl Try.underlying49) [0, 3, 4, 9, 10, 16] [(0, pt d 0), (3, .int .i64 (-1)), (4, .int .i64 1), (9, .agg #[.chan (some a0.ch), .chan (some a1.ch), .chan (some a2.ch)]), (10, .int .i64 1), (16, .int .i64 (a1.l.length : Int))] (by kernel_rfl) (by kernel_rfl) rfl ?_
   refine GL.run (j := 4) 2 [0, 3, 4, 9, 10, 14] [(0, pt d 0), (3, .int .i64 (-1)), (4, .int .i64 1), (9, .agg #[.chan (some a0.ch), .chan (some a1.ch), .chan (some a2.ch)]), (10, .int .i64 1), (14, .bool ((a1.l.length : Int) == 0))] (by kernel_rfl) rfl ?_
   refine GL.k rfl hK136 (fun _ _ h => h) ?_
   cases hb137 : ((a1.l.length : Int) == 0)
   · skip
     have hb137f := ne_of_beq_false hb137
     refine G.no rfl ?_
     refine G.seqK fun K138 hK139 => ?_
     refine G.region ?_
     refine GL.run (j := 5) 5 [0, 3, 4, 9, 10, 28] [(0, pt d 0), (3, .int .i64 (-1)), (4, .int .i64 1), (9, .agg #[.chan (some a0.ch), .chan (some a1.ch), .chan (some a2.ch)]), (10, .int .i64 1), (28, pt d 4)] (by kernel_rfl) rfl ?_
     refine GL.sem (j := 6) (H126.ld (o := 4) (ty := 3) (v := .int .i64 (a1.p : Int)) 0 rfl (by kernel_rfl) rfl) [0, 3, 4, 9, 10, 29] [(0, pt d 0), (3, .int .i64 (-1)), (4, .int .i64 1), (9, .agg #[.chan (some a0.ch), .chan (some a1.ch), .chan (some a2.ch)]), (10, .int .i64 1), (29, .int .i64 (a1.p : Int))] (by kernel_rfl) (by kernel_rfl) rfl ?_
     refine GL.run (j := 8) 2 [0, 3, 4, 9, 10, 23] [(0, pt d 0), (3, .int .i64 (-1)), (4, .int .i64 1), (9, .agg #[.chan (some a0.ch), .chan (some a1.ch), .chan (some a2.ch)]), (10, .int .i64 1), (23, .bool (decide (4 ≤ (a1.p : Int))))] (by kernel_rfl) rfl ?_
     refine GL.k rfl hK139 (fun _ _ h => h) ?_
     cases hb140 : (decide (4 ≤ (a1.p : Int)))
     · skip
       have hb140f := of_decide_eq_false hb140
       refine G.no rfl ?_
       refine G.seqK fun K141 hK142 => ?_
       refine G.region ?_
       refine GL.run (j := 3) 3 [0, 3, 4, 9, 10, 32] [(0, pt d 0), (3, .int .i64 (-1)), (4, .int .i64 1), (9, .agg #[.chan (some a0.ch), .chan (some a1.ch), .chan (some a2.ch)]), (10, .int .i64 1), (32, .bool true)] (by kernel_rfl) rfl ?_
       refine GL.k rfl hK142 (fun _ _ h => h) ?_
       refine G.yes rfl ?_
       refine G.region ?_
       refine GL.run (j := 2) 2 [0, 3, 9, 10] [(0, pt d 0), (3, .int .i64 1), (9, .agg #[.chan (some a0.ch), .chan (some a1.ch), .chan (some a2.ch)]), (10, .int .i64 1)] (by kernel_rfl) rfl ?_
       refine GL.k rfl hK132 (fun _ _ h => h) ?_
       refine G.region ?_
       refine GL.run (j := 2) 2 [0, 3, 9, 10] [(0, pt d 0), (3, .int .i64 1), (9, .agg #[.chan (some a0.ch), .chan (some a1.ch), .chan (some a2.ch)]), (10, .int .i64 2)] (by kernel_rfl) rfl ?_
       refine GL.round rfl ?_
       refine G.seqK fun K143 hK144 => ?_
       refine G.region ?_
       refine GL.run (j := 1) 1 [0, 3, 9, 10, 11] [(0, pt d 0), (3, .int .i64 1), (9, .agg #[.chan (some a0.ch), .chan (some a1.ch), .chan (some a2.ch)]), (10, .int .i64 2), (11, .bool true)] (by kernel_rfl) rfl ?_
       refine GL.k rfl hK144 (fun _ _ h => h) ?_
       refine G.seqK fun K145 hK146 => ?_
       refine G.yes rfl ?_
       refine G.skipK hK146 (fun _ _ h => h) ?_
       refine G.seqK fun K147 hK148 => ?_
       refine G.block ?_
       refine G.seqK fun K149 hK150 => ?_
       refine G.region ?_
       refine GL.run (j := 4) 4 [0, 3, 4, 5, 9, 10] [(0, pt d 0), (3, .int .i64 1), (4, .int .i64 2), (5, .chan (some a2.ch)), (9, .agg #[.chan (some a0.ch), .chan (some a1.ch), .chan (some a2.ch)]), (10, .int .i64 2)] (by kernel_rfl) rfl ?_
       refine GL.k rfl hK150 (fun _ _ h => h) ?_
       refine G.block ?_
       refine G.seqK fun K151 hK152 => ?_
       refine G.region ?_
       refine GL.run (j := 1) 1 [0, 3, 4, 9, 10, 15] [(0, pt d 0), (3, .int .i64 1), (4, .int .i64 2), (9, .agg #[.chan (some a0.ch), .chan (some a1.ch), .chan (some a2.ch)]), (10, .int .i64 2), (15, .chan (some a2.ch))] (by kernel_rfl) rfl ?_
       refine GL.sem (j := 2) (H126.lenChan (P := Try.prog) (t := 49) (ty := 3) (l := a2.l) 3 rfl Try.underlying49) [0, 3, 4, 9, 10, 16] [(0, pt d 0), (3, .int .i64 1), (4, .int .i64 2), (9, .agg #[.chan (some a0.ch), .chan (some a1.ch), .chan (some a2.ch)]), (10, .int .i64 2), (16, .int .i64 (a2.l.length : Int))] (by kernel_rfl) (by kernel_rfl) rfl ?_
       refine GL.run (j := 4) 2 [0, 3, 4, 9, 10, 14] [(0, pt d 0), (3, .int .i64 1), (4, .int .i64 2), (9, .agg #[.chan (some a0.ch), .chan (some a1.ch), .chan (some a2.ch)]), (10, .int .i64 2), (14, .bool ((a2.l.length : Int) == 0))] (by kernel_rfl) rfl ?_
       refine GL.k rfl hK152 (fun _ _ h => h) ?_
       cases hb153 : ((a2.l.length : Int) == 0)
       · skip
         have hb153f := ne_of_beq_false hb153
         refine G.no rfl ?_
         refine G.seqK fun K154 hK155 => ?_
         refine G.region ?_
         refine GL.run (j := 5) 5 [0, 3, 4, 9, 10, 28] [(0, pt d 0), (3, .int .i64 1), (4, .int .i64 2), (9, .agg #[.chan (some a0.ch), .chan (some a1.ch), .chan (some a2.ch)]), (10, .int .i64 2), (28, pt d 5)] (by kernel_rfl) rfl ?_
         refine GL.sem (j := 6) (H126.ld (o := 5) (ty := 3) (v := .int .i64 (a2.p : Int)) 0 rfl (by kernel_rfl) rfl) [0, 3, 4, 9, 10, 29] [(0, pt d 0), (3, .int .i64 1), (4, .int .i64 2), (9, .agg #[.chan (some a0.ch), .chan (some a1.ch), .chan (some a2.ch)]), (10, .int .i64 2), (29, .int .i64 (a2.p : Int))] (by kernel_rfl) (by kernel_rfl) rfl ?_
         refine GL.run (j := 8) 2 [0, 3, 4, 9, 10, 23] [(0, pt d 0), (3, .int .i64 1), (4, .int .i64 2), (9, .agg #[.chan (some a0.ch), .chan (some a1.ch), .chan (some a2.ch)]), (10, .int .i64 2), (23, .bool (decide (4 ≤ (a2.p : Int))))] (by kernel_rfl) rfl ?_
         refine GL.k rfl hK155 (fun _ _ h => h) ?_
         cases hb156 : (decide (4 ≤ (a2.p : Int)))
         · skip
           have hb156f := of_decide_eq_false hb156
           refine G.no rfl ?_
           refine G.seqK fun K157 hK158 => ?_
           refine G.region ?_
           refine GL.run (j := 3) 3 [0, 3, 4, 9, 10, 32] [(0, pt d 0), (3, .int .i64 1), (4, .int .i64 2), (9, .agg #[.chan (some a0.ch), .chan (some a1.ch), .chan (some a2.ch)]), (10, .int .i64 2), (32, .bool false)] (by kernel_rfl) rfl ?_
           refine GL.k rfl hK158 (fun _ _ h => h) ?_
           refine G.no rfl ?_
           refine G.skipK hK148 (fun _ _ h => h) ?_
           refine G.region ?_
           refine GL.run (j := 2) 2 [0, 3, 9, 10] [(0, pt d 0), (3, .int .i64 1), (9, .agg #[.chan (some a0.ch), .chan (some a1.ch), .chan (some a2.ch)]), (10, .int .i64 3)] (by kernel_rfl) rfl ?_
           refine GL.round rfl ?_
           refine G.seqK fun K159 hK160 => ?_
           refine G.region ?_
           refine GL.run (j := 1) 1 [0, 3, 9, 10, 11] [(0, pt d 0), (3, .int .i64 1), (9, .agg #[.chan (some a0.ch), .chan (some a1.ch), .chan (some a2.ch)]), (10, .int .i64 3), (11, .bool false)] (by kernel_rfl) rfl ?_
           refine GL.k rfl hK160 (fun _ _ h => h) ?_
           refine G.seqK fun K161 hK162 => ?_
           refine G.no rfl ?_
           refine G.exitK hK8 (fun _ _ h => h) ?_
           refine G.seqK fun K163 hK164 => ?_
           refine G.region ?_
           refine GL.run (j := 2) 2 [2] [(2, .int .i64 1)] (by kernel_rfl) rfl ?_
           refine GL.k rfl hK164 (fun _ _ h => h) ?_
           refine G.ret ?_
           intro F_ hF_ hM_
           refine hRet _ _ (bodyPost_1 rfl (RV.tmp rfl) ?_ F_ hF_ hM_)
           have e0 : tkN a0 a1 a2 = 1 := by
             unfold tkN
             repeat' split
             all_goals omega
           rw [show tkI a0 a1 a2 = 1 by unfold tkI; rw [e0]; rfl]
           have HZ : Hp w S [.blk d [.chan (some a0.ch), .chan (some a1.ch), .chan (some a2.ch), .int .i64 (a0.p : Int), .int .i64 (a1.p : Int), .int .i64 (a2.p : Int), .bool cl] 52, .obj a0.ch (chO room a0.l cl a0.s a0.r), .obj a1.ch (chO room a1.l cl a1.s a1.r), .obj a2.ch (chO room a2.l cl a2.s a2.r), .bag Gg] w124 := by rw [show a0.p = 0 from hz0.1 (by omega)]; exact H126
           exact ⟨rfl, HZ⟩
         · skip
           have hb156f := of_decide_eq_true hb156
           refine G.yes rfl ?_
           refine G.seqK fun K165 hK166 => ?_
           refine G.region ?_
           refine GL.run (j := 2) 2 [2] [(2, .int .i64 2)] (by kernel_rfl) rfl ?_
           refine GL.k rfl hK166 (fun _ _ h => h) ?_
           refine G.ret ?_
           intro F_ hF_ hM_
           refine hRet _ _ (bodyPost_1 rfl (RV.tmp rfl) ?_ F_ hF_ hM_)
           have e0 : tkN a0 a1 a2 = 2 := by
             unfold tkN
             repeat' split
             all_goals omega
           rw [show tkI a0 a1 a2 = 2 by unfold tkI; rw [e0]; rfl]
           have HZ : Hp w S [.blk d [.chan (some a0.ch), .chan (some a1.ch), .chan (some a2.ch), .int .i64 (a0.p : Int), .int .i64 (a1.p : Int), .int .i64 (a2.p : Int), .bool cl] 52, .obj a0.ch (chO room a0.l cl a0.s a0.r), .obj a1.ch (chO room a1.l cl a1.s a1.r), .obj a2.ch (chO room a2.l cl a2.s a2.r), .bag Gg] w124 := by rw [show a0.p = 0 from hz0.1 (by omega)]; exact H126
           exact ⟨rfl, HZ⟩
       · skip
         have hb153f := eq_of_beq hb153
         refine G.yes rfl ?_
         refine G.seqK fun K167 hK168 => ?_
         refine G.region ?_
         refine GL.run (j := 5) 5 [0, 3, 9, 10, 22] [(0, pt d 0), (3, .int .i64 1), (9, .agg #[.chan (some a0.ch), .chan (some a1.ch), .chan (some a2.ch)]), (10, .int .i64 2), (22, pt d 5)] (by kernel_rfl) rfl ?_
         obtain ⟨w169, r170, H171⟩ := H126.st (P := Try.prog) (o := 5) (ty := 3) (v := .int .i64 0) 0 rfl (by kernel_rfl) (by simp) rfl
         have H171 : Hp w S [.blk d [.chan (some a0.ch), .chan (some a1.ch), .chan (some a2.ch), .int .i64 0, .int .i64 (a1.p : Int), .int .i64 0, .bool cl] 52, .obj a0.ch (chO room a0.l cl a0.s a0.r), .obj a1.ch (chO room a1.l cl a1.s a1.r), .obj a2.ch (chO room a2.l cl a2.s a2.r), .bag Gg] w169 := H171
         refine GL.semU (j := 6) r170 [0, 3, 9, 10] [(0, pt d 0), (3, .int .i64 1), (9, .agg #[.chan (some a0.ch), .chan (some a1.ch), .chan (some a2.ch)]), (10, .int .i64 2)] (by kernel_rfl) rfl rfl rfl ?_
         refine GL.k rfl hK168 (fun _ _ h => h) ?_
         refine G.exitK hK148 (fun _ _ h => h) ?_
         refine G.region ?_
         refine GL.run (j := 2) 2 [0, 3, 9, 10] [(0, pt d 0), (3, .int .i64 1), (9, .agg #[.chan (some a0.ch), .chan (some a1.ch), .chan (some a2.ch)]), (10, .int .i64 3)] (by kernel_rfl) rfl ?_
         refine GL.round rfl ?_
         refine G.seqK fun K172 hK173 => ?_
         refine G.region ?_
         refine GL.run (j := 1) 1 [0, 3, 9, 10, 11] [(0, pt d 0), (3, .int .i64 1), (9, .agg #[.chan (some a0.ch), .chan (some a1.ch), .chan (some a2.ch)]), (10, .int .i64 3), (11, .bool false)] (by kernel_rfl) rfl ?_
         refine GL.k rfl hK173 (fun _ _ h => h) ?_
         refine G.seqK fun K174 hK175 => ?_
         refine G.no rfl ?_
         refine G.exitK hK8 (fun _ _ h => h) ?_
         refine G.seqK fun K176 hK177 => ?_
         refine G.region ?_
         refine GL.run (j := 2) 2 [2] [(2, .int .i64 1)] (by kernel_rfl) rfl ?_
         refine GL.k rfl hK177 (fun _ _ h => h) ?_
         refine G.ret ?_
         intro F_ hF_ hM_
         refine hRet _ _ (bodyPost_1 rfl (RV.tmp rfl) ?_ F_ hF_ hM_)
         have e0 : tkN a0 a1 a2 = 1 := by
           unfold tkN
           repeat' split
           all_goals omega
         rw [show tkI a0 a1 a2 = 1 by unfold tkI; rw [e0]; rfl]
         have HZ : Hp w S [.blk d [.chan (some a0.ch), .chan (some a1.ch), .chan (some a2.ch), .int .i64 (a0.p : Int), .int .i64 (a1.p : Int), .int .i64 (a2.p : Int), .bool cl] 52, .obj a0.ch (chO room a0.l cl a0.s a0.r), .obj a1.ch (chO room a1.l cl a1.s a1.r), .obj a2.ch (chO room a2.l cl a2.s a2.r), .bag Gg] w169 := by rw [show a0.p = 0 from hz0.1 (by omega), show a2.p = 0 from hz2.1 (by omega)]; exact H171
         exact ⟨rfl, HZ⟩
     · skip
       have hb140f := of_decide_eq_true hb140
       refine G.yes rfl ?_
       refine G.seqK fun K178 hK179 => ?_
       refine G.region ?_
       refine GL.run (j := 2) 2 [2] [(2, .int .i64 1)] (by kernel_rfl) rfl ?_
       refine GL.k rfl hK179 (fun _ _ h => h) ?_
       refine G.ret ?_
       intro F_ hF_ hM_
       refine hRet _ _ (bodyPost_1 rfl (RV.tmp rfl) ?_ F_ hF_ hM_)
       have e0 : tkN a0 a1 a2 = 1 := by
         unfold tkN
         repeat' split
         all_goals omega
       rw [show tkI a0 a1 a2 = 1 by unfold tkI; rw [e0]; rfl]
       have HZ : Hp w S [.blk d [.chan (some a0.ch), .chan (some a1.ch), .chan (some a2.ch), .int .i64 (a0.p : Int), .int .i64 (a1.p : Int), .int .i64 (a2.p : Int), .bool cl] 52, .obj a0.ch (chO room a0.l cl a0.s a0.r), .obj a1.ch (chO room a1.l cl a1.s a1.r), .obj a2.ch (chO room a2.l cl a2.s a2.r), .bag Gg] w124 := by rw [show a0.p = 0 from hz0.1 (by omega)]; exact H126
       exact ⟨rfl, HZ⟩
   · skip
     have hb137f := eq_of_beq hb137
     refine G.yes rfl ?_
     refine G.seqK fun K180 hK181 => ?_
     refine G.region ?_
     refine GL.run (j := 5) 5 [0, 3, 9, 10, 22] [(0, pt d 0), (3, .int .i64 (-1)), (9, .agg #[.chan (some a0.ch), .chan (some a1.ch), .chan (some a2.ch)]), (10, .int .i64 1), (22, pt d 4)] (by kernel_rfl) rfl ?_
     obtain ⟨w182, r183, H184⟩ := H126.st (P := Try.prog) (o := 4) (ty := 3) (v := .int .i64 0) 0 rfl (by kernel_rfl) (by simp) rfl
     have H184 : Hp w S [.blk d [.chan (some a0.ch), .chan (some a1.ch), .chan (some a2.ch), .int .i64 0, .int .i64 0, .int .i64 (a2.p : Int), .bool cl] 52, .obj a0.ch (chO room a0.l cl a0.s a0.r), .obj a1.ch (chO room a1.l cl a1.s a1.r), .obj a2.ch (chO room a2.l cl a2.s a2.r), .bag Gg] w182 := H184
     refine GL.semU (j := 6) r183 [0, 3, 9, 10] [(0, pt d 0), (3, .int .i64 (-1)), (9, .agg #[.chan (some a0.ch), .chan (some a1.ch), .chan (some a2.ch)]), (10, .int .i64 1)] (by kernel_rfl) rfl rfl rfl ?_
     refine GL.k rfl hK181 (fun _ _ h => h) ?_
     refine G.exitK hK132 (fun _ _ h => h) ?_
     refine G.region ?_
     refine GL.run (j := 2) 2 [0, 3, 9, 10] [(0, pt d 0), (3, .int .i64 (-1)), (9, .agg #[.chan (some a0.ch), .chan (some a1.ch), .chan (some a2.ch)]), (10, .int .i64 2)] (by kernel_rfl) rfl ?_
     refine GL.round rfl ?_
     refine G.seqK fun K185 hK186 => ?_
     refine G.region ?_
     refine GL.run (j := 1) 1 [0, 3, 9, 10, 11] [(0, pt d 0), (3, .int .i64 (-1)), (9, .agg #[.chan (some a0.ch), .chan (some a1.ch), .chan (some a2.ch)]), (10, .int .i64 2), (11, .bool true)] (by kernel_rfl) rfl ?_
     refine GL.k rfl hK186 (fun _ _ h => h) ?_
     refine G.seqK fun K187 hK188 => ?_
     refine G.yes rfl ?_
     refine G.skipK hK188 (fun _ _ h => h) ?_
     refine G.seqK fun K189 hK190 => ?_
     refine G.block ?_
     refine G.seqK fun K191 hK192 => ?_
     refine G.region ?_
     refine GL.run (j := 4) 4 [0, 3, 4, 5, 9, 10] [(0, pt d 0), (3, .int .i64 (-1)), (4, .int .i64 2), (5, .chan (some a2.ch)), (9, .agg #[.chan (some a0.ch), .chan (some a1.ch), .chan (some a2.ch)]), (10, .int .i64 2)] (by kernel_rfl) rfl ?_
     refine GL.k rfl hK192 (fun _ _ h => h) ?_
     refine G.block ?_
     refine G.seqK fun K193 hK194 => ?_
     refine G.region ?_
     refine GL.run (j := 1) 1 [0, 3, 4, 9, 10, 15] [(0, pt d 0), (3, .int .i64 (-1)), (4, .int .i64 2), (9, .agg #[.chan (some a0.ch), .chan (some a1.ch), .chan (some a2.ch)]), (10, .int .i64 2), (15, .chan (some a2.ch))] (by kernel_rfl) rfl ?_
     refine GL.sem (j := 2) (H184.lenChan (P := Try.prog) (t := 49) (ty := 3) (l := a2.l) 3 rfl Try.underlying49) [0, 3, 4, 9, 10, 16] [(0, pt d 0), (3, .int .i64 (-1)), (4, .int .i64 2), (9, .agg #[.chan (some a0.ch), .chan (some a1.ch), .chan (some a2.ch)]), (10, .int .i64 2), (16, .int .i64 (a2.l.length : Int))] (by kernel_rfl) (by kernel_rfl) rfl ?_
     refine GL.run (j := 4) 2 [0, 3, 4, 9, 10, 14] [(0, pt d 0), (3, .int .i64 (-1)), (4, .int .i64 2), (9, .agg #[.chan (some a0.ch), .chan (some a1.ch), .chan (some a2.ch)]), (10, .int .i64 2), (14, .bool ((a2.l.length : Int) == 0))] (by kernel_rfl) rfl ?_
     refine GL.k rfl hK194 (fun _ _ h => h) ?_
     cases hb195 : ((a2.l.length : Int) == 0)
     · skip
       have hb195f := ne_of_beq_false hb195
       refine G.no rfl ?_
       refine G.seqK fun K196 hK197 => ?_
       refine G.region ?_
       refine GL.run (j := 5) 5 [0, 3, 4, 9, 10, 28] [(0, pt d 0), (3, .int .i64 (-1)), (4, .int .i64 2), (9, .agg #[.chan (some a0.ch), .chan (some a1.ch), .chan (some a2.ch)]), (10, .int .i64 2), (28, pt d 5)] (by kernel_rfl) rfl ?_
       refine GL.sem (j := 6) (H184.ld (o := 5) (ty := 3) (v := .int .i64 (a2.p : Int)) 0 rfl (by kernel_rfl) rfl) [0, 3, 4, 9, 10, 29] [(0, pt d 0), (3, .int .i64 (-1)), (4, .int .i64 2), (9, .agg #[.chan (some a0.ch), .chan (some a1.ch), .chan (some a2.ch)]), (10, .int .i64 2), (29, .int .i64 (a2.p : Int))] (by kernel_rfl) (by kernel_rfl) rfl ?_
       refine GL.run (j := 8) 2 [0, 3, 4, 9, 10, 23] [(0, pt d 0), (3, .int .i64 (-1)), (4, .int .i64 2), (9, .agg #[.chan (some a0.ch), .chan (some a1.ch), .chan (some a2.ch)]), (10, .int .i64 2), (23, .bool (decide (4 ≤ (a2.p : Int))))] (by kernel_rfl) rfl ?_
       refine GL.k rfl hK197 (fun _ _ h => h) ?_
       cases hb198 : (decide (4 ≤ (a2.p : Int)))
       · skip
         have hb198f := of_decide_eq_false hb198
         refine G.no rfl ?_
         refine G.seqK fun K199 hK200 => ?_
         refine G.region ?_
         refine GL.run (j := 3) 3 [0, 3, 4, 9, 10, 32] [(0, pt d 0), (3, .int .i64 (-1)), (4, .int .i64 2), (9, .agg #[.chan (some a0.ch), .chan (some a1.ch), .chan (some a2.ch)]), (10, .int .i64 2), (32, .bool true)] (by kernel_rfl) rfl ?_
         refine GL.k rfl hK200 (fun _ _ h => h) ?_
         refine G.yes rfl ?_
         refine G.region ?_
         refine GL.run (j := 2) 2 [0, 3, 9, 10] [(0, pt d 0), (3, .int .i64 2), (9, .agg #[.chan (some a0.ch), .chan (some a1.ch), .chan (some a2.ch)]), (10, .int .i64 2)] (by kernel_rfl) rfl ?_
         refine GL.k rfl hK190 (fun _ _ h => h) ?_
         refine G.region ?_
         refine GL.run (j := 2) 2 [0, 3, 9, 10] [(0, pt d 0), (3, .int .i64 2), (9, .agg #[.chan (some a0.ch), .chan (some a1.ch), .chan (some a2.ch)]), (10, .int .i64 3)] (by kernel_rfl) rfl ?_
         refine GL.round rfl ?_
         refine G.seqK fun K201 hK202 => ?_
         refine G.region ?_
         refine GL.run (j := 1) 1 [0, 3, 9, 10, 11] [(0, pt d 0), (3, .int .i64 2), (9, .agg #[.chan (some a0.ch), .chan (some a1.ch), .chan (some a2.ch)]), (10, .int .i64 3), (11, .bool false)] (by kernel_rfl) rfl ?_
         refine GL.k rfl hK202 (fun _ _ h => h) ?_
         refine G.seqK fun K203 hK204 => ?_
         refine G.no rfl ?_
         refine G.exitK hK8 (fun _ _ h => h) ?_
         refine G.seqK fun K205 hK206 => ?_
         refine G.region ?_
         refine GL.run (j := 2) 2 [2] [(2, .int .i64 2)] (by kernel_rfl) rfl ?_
         refine GL.k rfl hK206 (fun _ _ h => h) ?_
         refine G.ret ?_
         intro F_ hF_ hM_
         refine hRet _ _ (bodyPost_1 rfl (RV.tmp rfl) ?_ F_ hF_ hM_)
         have e0 : tkN a0 a1 a2 = 2 := by
           unfold tkN
           repeat' split
           all_goals omega
         rw [show tkI a0 a1 a2 = 2 by unfold tkI; rw [e0]; rfl]
         have HZ : Hp w S [.blk d [.chan (some a0.ch), .chan (some a1.ch), .chan (some a2.ch), .int .i64 (a0.p : Int), .int .i64 (a1.p : Int), .int .i64 (a2.p : Int), .bool cl] 52, .obj a0.ch (chO room a0.l cl a0.s a0.r), .obj a1.ch (chO room a1.l cl a1.s a1.r), .obj a2.ch (chO room a2.l cl a2.s a2.r), .bag Gg] w182 := by rw [show a0.p = 0 from hz0.1 (by omega), show a1.p = 0 from hz1.1 (by omega)]; exact H184
         exact ⟨rfl, HZ⟩
       · skip
         have hb198f := of_decide_eq_true hb198
         refine G.yes rfl ?_
         refine G.seqK fun K207 hK208 => ?_
         refine G.region ?_
         refine GL.run (j := 2) 2 [2] [(2, .int .i64 2)] (by kernel_rfl) rfl ?_
         refine GL.k rfl hK208 (fun _ _ h => h) ?_
         refine G.ret ?_
         intro F_ hF_ hM_
         refine hRet _ _ (bodyPost_1 rfl (RV.tmp rfl) ?_ F_ hF_ hM_)
         have e0 : tkN a0 a1 a2 = 2 := by
           unfold tkN
           repeat' split
           all_goals omega
         rw [show tkI a0 a1 a2 = 2 by unfold tkI; rw [e0]; rfl]
         have HZ : Hp w S [.blk d [.chan (some a0.ch), .chan (some a1.ch), .chan (some a2.ch), .int .i64 (a0.p : Int), .int .i64 (a1.p : Int), .int .i64 (a2.p : Int), .bool cl] 52, .obj a0.ch (chO room a0.l cl a0.s a0.r), .obj a1.ch (chO room a1.l cl a1.s a1.r), .obj a2.ch (chO room a2.l cl a2.s a2.r), .bag Gg] w182 := by rw [show a0.p = 0 from hz0.1 (by omega), show a1.p = 0 from hz1.1 (by omega)]; exact H184
         exact ⟨rfl, HZ⟩
     · skip
       have hb195f := eq_of_beq hb195
       refine G.yes rfl ?_
       refine G.seqK fun K209 hK210 => ?_
       refine G.region ?_
       refine GL.run (j := 5) 5 [0, 3, 9, 10, 22] [(0, pt d 0), (3, .int .i64 (-1)), (9, .agg #[.chan (some a0.ch), .chan (some a1.ch), .chan (some a2.ch)]), (10, .int .i64 2), (22, pt d 5)] (by kernel_rfl) rfl ?_
       obtain ⟨w211, r212, H213⟩ := H184.st (P := Try.prog) (o := 5) (ty := 3) (v := .int .i64 0) 0 rfl (by kernel_rfl) (by simp) rfl
       have H213 : Hp w S [.blk d [.chan (some a0.ch), .chan (some a1.ch), .chan (some a2.ch), .int .i64 0, .int .i64 0, .int .i64 0, .bool cl] 52, .obj a0.ch (chO room a0.l cl a0.s a0.r), .obj a1.ch (chO room a1.l cl a1.s a1.r), .obj a2.ch (chO room a2.l cl a2.s a2.r), .bag Gg] w211 := H213
       refine GL.semU (j := 6) r212 [0, 3, 9, 10] [(0, pt d 0), (3, .int .i64 (-1)), (9, .agg #[.chan (some a0.ch), .chan (some a1.ch), .chan (some a2.ch)]), (10, .int .i64 2)] (by kernel_rfl) rfl rfl rfl ?_
       refine GL.k rfl hK210 (fun _ _ h => h) ?_
       refine G.exitK hK190 (fun _ _ h => h) ?_
       refine G.region ?_
       refine GL.run (j := 2) 2 [0, 3, 9, 10] [(0, pt d 0), (3, .int .i64 (-1)), (9, .agg #[.chan (some a0.ch), .chan (some a1.ch), .chan (some a2.ch)]), (10, .int .i64 3)] (by kernel_rfl) rfl ?_
       refine GL.round rfl ?_
       refine G.seqK fun K214 hK215 => ?_
       refine G.region ?_
       refine GL.run (j := 1) 1 [0, 3, 9, 10, 11] [(0, pt d 0), (3, .int .i64 (-1)), (9, .agg #[.chan (some a0.ch), .chan (some a1.ch), .chan (some a2.ch)]), (10, .int .i64 3), (11, .bool false)] (by kernel_rfl) rfl ?_
       refine GL.k rfl hK215 (fun _ _ h => h) ?_
       refine G.seqK fun K216 hK217 => ?_
       refine G.no rfl ?_
       refine G.exitK hK8 (fun _ _ h => h) ?_
       refine G.seqK fun K218 hK219 => ?_
       refine G.region ?_
       refine GL.run (j := 2) 2 [2] [(2, .int .i64 (-1))] (by kernel_rfl) rfl ?_
       refine GL.k rfl hK219 (fun _ _ h => h) ?_
       refine G.ret ?_
       intro F_ hF_ hM_
       refine hRet _ _ (bodyPost_1 rfl (RV.tmp rfl) ?_ F_ hF_ hM_)
       have e0 : tkN a0 a1 a2 = 3 := by
         unfold tkN
         repeat' split
         all_goals omega
       rw [show tkI a0 a1 a2 = -1 by unfold tkI; rw [e0]; rfl]
       have HZ : Hp w S [.blk d [.chan (some a0.ch), .chan (some a1.ch), .chan (some a2.ch), .int .i64 (a0.p : Int), .int .i64 (a1.p : Int), .int .i64 (a2.p : Int), .bool cl] 52, .obj a0.ch (chO room a0.l cl a0.s a0.r), .obj a1.ch (chO room a1.l cl a1.s a1.r), .obj a2.ch (chO room a2.l cl a2.s a2.r), .bag Gg] w211 := by rw [show a0.p = 0 from hz0.1 (by omega), show a1.p = 0 from hz1.1 (by omega), show a2.p = 0 from hz2.1 (by omega)]; exact H213
       exact ⟨rfl, HZ⟩
set_option maxHeartbeats 4000000 in
theorem Take0_calls (S : List Nat) (d room : Nat) (cl : Bool) (a0 a1 a2 : Lane) (Gg : List (Option Addr × Nat × Nat × TypeId × List Value)) (m_ : Msg) (t_ : List Msg) (w : World) (h0 : Hp w S [.blk d [.chan (some a0.ch), .chan (some a1.ch), .chan (some a2.ch), .int .i64 (a0.p : Int), .int .i64 (a1.p : Int), .int .i64 (a2.p : Int), .bool cl] 52, .obj a0.ch (chO room a0.l cl a0.s a0.r), .obj a1.ch (chO room a1.l cl a1.s a1.r), .obj a2.ch (chO room a2.l cl a2.s a2.r), .bag Gg] w) (hz0 : a0.z) (hz1 : a1.z) (hz2 : a2.z) (htk : tkN a0 a1 a2 = 0) (hlk : a0.l = m_ :: t_) : Calls Try.prog 9 #[pt d 0] w fun e w' => e = .returned (.tuple #[.slice m_.A m_.b.length m_.c, .int .i64 0, .bool true]) ∧ Hp w S [.blk d [.chan (some (a0.took t_).ch), .chan (some a1.pass.ch), .chan (some a2.pass.ch), .int .i64 (((a0.took t_).p : Nat) : Int), .int .i64 (a1.pass.p : Int), .int .i64 (a2.pass.p : Int), .bool cl] 52, .obj (a0.took t_).ch (chO room (a0.took t_).l cl (a0.took t_).s (a0.took t_).r), .obj a1.pass.ch (chO room a1.pass.l cl a1.pass.s a1.pass.r), .obj a2.pass.ch (chO room a2.pass.l cl a2.pass.s a2.pass.r), .bag Gg] w' := by
 have hzp0 := hz0.2
 have hzp1 := hz1.2
 have hzp2 := hz2.2
 refine calls_GN (args := [pt d 0]) Try.func9 rfl Try.ntmps9 rfl ?_
 intro Q0 hRet hNor hPan
 have H := h0
 have H : Hp w S [.blk d [.chan (some a0.ch), .chan (some a1.ch), .chan (some a2.ch), .int .i64 (a0.p : Int), .int .i64 (a1.p : Int), .int .i64 (a2.p : Int), .bool cl] 52, .obj a0.ch (chO room a0.l cl a0.s a0.r), .obj a1.ch (chO room a1.l cl a1.s a1.r), .obj a2.ch (chO room a2.l cl a2.s a2.r), .bag Gg] w := H
 refine GN.seqK fun K1 hK2 => ?_
 refine G.region ?_
 refine GL.run (j := 3) 3 [0] [(0, pt d 0)] (by kernel_rfl) rfl ?_
 refine GL.kN rfl hK2 (fun _ _ h => h) ?_
 refine GN.seqK fun K3 hK4 => ?_
 refine G.seqK fun K5 hK6 => ?_
 refine G.region ?_
 refine GL.run (j := 2) 2 [0, 10] [(0, pt d 0), (10, .bool false)] (by kernel_rfl) rfl ?_
 refine GL.k rfl hK6 (fun _ _ h => h) ?_
 refine G.no rfl ?_
 refine G.skipKN hK4 (fun _ _ h => h) ?_
 refine GN.seqK fun K7 hK8 => ?_
 refine G.region ?_
 refine GL.run (j := 1) 1 [0, 11] [(0, pt d 0), (11, pt d 0)] (by kernel_rfl) rfl ?_
 refine GL.call (j := 2) ((by have h_ := next_calls (ids [.blk d [.chan (some a0.ch), .chan (some a1.ch), .chan (some a2.ch), .int .i64 (a0.p : Int), .int .i64 (a1.p : Int), .int .i64 (a2.p : Int), .bool cl] 52, .obj a0.ch (chO room a0.l cl a0.s a0.r), .obj a1.ch (chO room a1.l cl a1.s a1.r), .obj a2.ch (chO room a2.l cl a2.s a2.r), .bag Gg]) d room cl a0 a1 a2 Gg w (Hp.startL (A := [.blk d [.chan (some a0.ch), .chan (some a1.ch), .chan (some a2.ch), .int .i64 (a0.p : Int), .int .i64 (a1.p : Int), .int .i64 (a2.p : Int), .bool cl] 52, .obj a0.ch (chO room a0.l cl a0.s a0.r), .obj a1.ch (chO room a1.l cl a1.s a1.r), .obj a2.ch (chO room a2.l cl a2.s a2.r), .bag Gg]) (B := []) H) hz0 hz1 hz2; rw [show tkI a0 a1 a2 = 0 by unfold tkI; rw [htk]; rfl] at h_; exact h_)) (by kernel_rfl) rfl (fun e_ w9 hR => ?_)
 obtain ⟨rfl, H11⟩ := hR
 have H10 : Hp w S [.blk d [.chan (some a0.ch), .chan (some a1.ch), .chan (some a2.ch), .int .i64 (a0.p : Int), .int .i64 (a1.p : Int), .int .i64 (a2.p : Int), .bool cl] 52, .obj a0.ch (chO room a0.l cl a0.s a0.r), .obj a1.ch (chO room a1.l cl a1.s a1.r), .obj a2.ch (chO room a2.l cl a2.s a2.r), .bag Gg] w9 := Hp.callL (A := [.blk d [.chan (some a0.ch), .chan (some a1.ch), .chan (some a2.ch), .int .i64 (a0.p : Int), .int .i64 (a1.p : Int), .int .i64 (a2.p : Int), .bool cl] 52, .obj a0.ch (chO room a0.l cl a0.s a0.r), .obj a1.ch (chO room a1.l cl a1.s a1.r), .obj a2.ch (chO room a2.l cl a2.s a2.r), .bag Gg]) (B := []) H H11
 refine ⟨_, rfl, [0, 12], [(0, pt d 0), (12, .int .i64 0)], by kernel_rfl, ?_⟩
 refine GL.run (j := 3) 1 [0, 5] [(0, pt d 0), (5, .int .i64 0)] (by kernel_rfl) rfl ?_
 refine GL.kN rfl hK8 (fun _ _ h => h) ?_
 refine GN.seqK fun K12 hK13 => ?_
 refine G.seqK fun K14 hK15 => ?_
 refine G.region ?_
 refine GL.run (j := 2) 2 [0, 5, 14] [(0, pt d 0), (5, .int .i64 0), (14, .bool false)] (by kernel_rfl) rfl ?_
 refine GL.k rfl hK15 (fun _ _ h => h) ?_
 refine G.no rfl ?_
 refine G.skipKN hK13 (fun _ _ h => h) ?_
 refine GN.seqK fun K16 hK17 => ?_
 refine G.seqK fun K18 hK19 => ?_
 refine G.region ?_
 refine GL.run (j := 3) 3 [0, 5, 17] [(0, pt d 0), (5, .int .i64 0), (17, pt d 0)] (by kernel_rfl) rfl ?_
 refine GL.sem (j := 4) (H10.ldA (o := 0) (ty := 50) (m := 3) (sub := [.chan (some a0.ch), .chan (some a1.ch), .chan (some a2.ch)]) 0 rfl (by kernel_rfl) rfl rfl) [0, 5, 18] [(0, pt d 0), (5, .int .i64 0), (18, .agg #[.chan (some a0.ch), .chan (some a1.ch), .chan (some a2.ch)])] (by kernel_rfl) (by kernel_rfl) rfl ?_
 refine GL.run (j := 5) 1 [0, 5, 18, 19] [(0, pt d 0), (5, .int .i64 0), (18, .agg #[.chan (some a0.ch), .chan (some a1.ch), .chan (some a2.ch)]), (19, .int .i64 0)] (by kernel_rfl) rfl ?_
 refine GL.k rfl hK19 (fun _ _ h => h) ?_
 refine G.block ?_
 refine G.unroll 3 ?_
 refine G.seqK fun K20 hK21 => ?_
 refine G.region ?_
 refine GL.run (j := 1) 1 [0, 5, 18, 19, 20] [(0, pt d 0), (5, .int .i64 0), (18, .agg #[.chan (some a0.ch), .chan (some a1.ch), .chan (some a2.ch)]), (19, .int .i64 0), (20, .bool true)] (by kernel_rfl) rfl ?_
 refine GL.k rfl hK21 (fun _ _ h => h) ?_
 refine G.seqK fun K22 hK23 => ?_
 refine G.yes rfl ?_
 refine G.skipK hK23 (fun _ _ h => h) ?_
 refine G.seqK fun K24 hK25 => ?_
 refine G.block ?_
 refine G.seqK fun K26 hK27 => ?_
 refine G.region ?_
 refine GL.run (j := 4) 4 [0, 5, 6, 7, 18, 19] [(0, pt d 0), (5, .int .i64 0), (6, .int .i64 0), (7, .chan (some a0.ch)), (18, .agg #[.chan (some a0.ch), .chan (some a1.ch), .chan (some a2.ch)]), (19, .int .i64 0)] (by kernel_rfl) rfl ?_
 refine GL.k rfl hK27 (fun _ _ h => h) ?_
 refine G.seqK fun K28 hK29 => ?_
 refine G.region ?_
 refine GL.run (j := 8) 8 [0, 5, 6, 18, 19, 30] [(0, pt d 0), (5, .int .i64 0), (6, .int .i64 0), (18, .agg #[.chan (some a0.ch), .chan (some a1.ch), .chan (some a2.ch)]), (19, .int .i64 0), (30, .bool false)] (by kernel_rfl) rfl ?_
 refine GL.k rfl hK29 (fun _ _ h => h) ?_
 refine G.no rfl ?_
 refine G.skipK hK25 (fun _ _ h => h) ?_
 refine G.region ?_
 refine GL.run (j := 2) 2 [0, 5, 18, 19] [(0, pt d 0), (5, .int .i64 0), (18, .agg #[.chan (some a0.ch), .chan (some a1.ch), .chan (some a2.ch)]), (19, .int .i64 1)] (by kernel_rfl) rfl ?_
 refine GL.round rfl ?_
 refine G.seqK fun K30 hK31 => ?_
 refine G.region ?_
 refine GL.run (j := 1) 1 [0, 5, 18, 19, 20] [(0, pt d 0), (5, .int .i64 0), (18, .agg #[.chan (some a0.ch), .chan (some a1.ch), .chan (some a2.ch)]), (19, .int .i64 1), (20, .bool true)] (by kernel_rfl) rfl ?_
 refine GL.k rfl hK31 (fun _ _ h => h) ?_
 refine G.seqK fun K32 hK33 => ?_
 refine G.yes rfl ?_
 refine G.skipK hK33 (fun _ _ h => h) ?_
 refine G.seqK fun K34 hK35 => ?_
 refine G.block ?_
 refine G.seqK fun K36 hK37 => ?_
 refine G.region ?_
 refine GL.run (j := 4) 4 [0, 5, 6, 7, 18, 19] [(0, pt d 0), (5, .int .i64 0), (6, .int .i64 1), (7, .chan (some a1.ch)), (18, .agg #[.chan (some a0.ch), .chan (some a1.ch), .chan (some a2.ch)]), (19, .int .i64 1)] (by kernel_rfl) rfl ?_
 refine GL.k rfl hK37 (fun _ _ h => h) ?_
 refine G.seqK fun K38 hK39 => ?_
 refine G.region ?_
 refine GL.run (j := 5) 5 [0, 5, 6, 18, 19, 26, 27] [(0, pt d 0), (5, .int .i64 0), (6, .int .i64 1), (18, .agg #[.chan (some a0.ch), .chan (some a1.ch), .chan (some a2.ch)]), (19, .int .i64 1), (26, .bool true), (27, .chan (some a1.ch))] (by kernel_rfl) rfl ?_
 refine GL.sem (j := 6) (H10.lenChan (P := Try.prog) (t := 49) (ty := 3) (l := a1.l) 2 rfl Try.underlying49) [0, 5, 6, 18, 19, 26, 28] [(0, pt d 0), (5, .int .i64 0), (6, .int .i64 1), (18, .agg #[.chan (some a0.ch), .chan (some a1.ch), .chan (some a2.ch)]), (19, .int .i64 1), (26, .bool true), (28, .int .i64 (a1.l.length : Int))] (by kernel_rfl) (by kernel_rfl) rfl ?_
 refine GL.run (j := 8) 2 [0, 5, 6, 18, 19, 30] [(0, pt d 0), (5, .int .i64 0), (6, .int .i64 1), (18, .agg #[.chan (some a0.ch), .chan (some a1.ch), .chan (some a2.ch)]), (19, .int .i64 1), (30, .bool (decide (0 < (a1.l.length : Int))))] (by kernel_rfl) rfl ?_
 refine GL.k rfl hK39 (fun _ _ h => h) ?_
 cases hb40 : (decide (0 < (a1.l.length : Int)))
 · skip
   have hb40f := of_decide_eq_false hb40
   refine G.no rfl ?_
   refine G.skipK hK35 (fun _ _ h => h) ?_
   refine G.region ?_
   refine GL.run (j := 2) 2 [0, 5, 18, 19] [(0, pt d 0), (5, .int .i64 0), (18, .agg #[.chan (some a0.ch), .chan (some a1.ch), .chan (some a2.ch)]), (19, .int .i64 2)] (by kernel_rfl) rfl ?_
   refine GL.round rfl ?_
   refine G.seqK fun K41 hK42 => ?_
   refine G.region ?_
   refine GL.run (j := 1) 1 [0, 5, 18, 19, 20] [(0, pt d 0), (5, .int .i64 0), (18, .agg #[.chan (some a0.ch), .chan (some a1.ch), .chan (some a2.ch)]), (19, .int .i64 2), (20, .bool true)] (by kernel_rfl) rfl ?_
   refine GL.k rfl hK42 (fun _ _ h => h) ?_
   refine G.seqK fun K43 hK44 => ?_
   refine G.yes rfl ?_
   refine G.skipK hK44 (fun _ _ h => h) ?_
   refine G.seqK fun K45 hK46 => ?_
   refine G.block ?_
   refine G.seqK fun K47 hK48 => ?_
   refine G.region ?_
   refine GL.run (j := 4) 4 [0, 5, 6, 7, 18, 19] [(0, pt d 0), (5, .int .i64 0), (6, .int .i64 2), (7, .chan (some a2.ch)), (18, .agg #[.chan (some a0.ch), .chan (some a1.ch), .chan (some a2.ch)]), (19, .int .i64 2)] (by kernel_rfl) rfl ?_
   refine GL.k rfl hK48 (fun _ _ h => h) ?_
   refine G.seqK fun K49 hK50 => ?_
   refine G.region ?_
   refine GL.run (j := 5) 5 [0, 5, 6, 18, 19, 26, 27] [(0, pt d 0), (5, .int .i64 0), (6, .int .i64 2), (18, .agg #[.chan (some a0.ch), .chan (some a1.ch), .chan (some a2.ch)]), (19, .int .i64 2), (26, .bool true), (27, .chan (some a2.ch))] (by kernel_rfl) rfl ?_
   refine GL.sem (j := 6) (H10.lenChan (P := Try.prog) (t := 49) (ty := 3) (l := a2.l) 3 rfl Try.underlying49) [0, 5, 6, 18, 19, 26, 28] [(0, pt d 0), (5, .int .i64 0), (6, .int .i64 2), (18, .agg #[.chan (some a0.ch), .chan (some a1.ch), .chan (some a2.ch)]), (19, .int .i64 2), (26, .bool true), (28, .int .i64 (a2.l.length : Int))] (by kernel_rfl) (by kernel_rfl) rfl ?_
   refine GL.run (j := 8) 2 [0, 5, 6, 18, 19, 30] [(0, pt d 0), (5, .int .i64 0), (6, .int .i64 2), (18, .agg #[.chan (some a0.ch), .chan (some a1.ch), .chan (some a2.ch)]), (19, .int .i64 2), (30, .bool (decide (0 < (a2.l.length : Int))))] (by kernel_rfl) rfl ?_
   refine GL.k rfl hK50 (fun _ _ h => h) ?_
   cases hb51 : (decide (0 < (a2.l.length : Int)))
   · skip
     have hb51f := of_decide_eq_false hb51
     refine G.no rfl ?_
     refine G.skipK hK46 (fun _ _ h => h) ?_
     refine G.region ?_
     refine GL.run (j := 2) 2 [0, 5, 18, 19] [(0, pt d 0), (5, .int .i64 0), (18, .agg #[.chan (some a0.ch), .chan (some a1.ch), .chan (some a2.ch)]), (19, .int .i64 3)] (by kernel_rfl) rfl ?_
     refine GL.round rfl ?_
     refine G.seqK fun K52 hK53 => ?_
     refine G.region ?_
     refine GL.run (j := 1) 1 [0, 5, 18, 19, 20] [(0, pt d 0), (5, .int .i64 0), (18, .agg #[.chan (some a0.ch), .chan (some a1.ch), .chan (some a2.ch)]), (19, .int .i64 3), (20, .bool false)] (by kernel_rfl) rfl ?_
     refine GL.k rfl hK53 (fun _ _ h => h) ?_
     refine G.seqK fun K54 hK55 => ?_
     refine G.no rfl ?_
     refine G.exitKN hK17 (fun _ _ h => h) ?_
     refine GN.seqK fun K56 hK57 => ?_
     refine G.region ?_
     refine GL.run (j := 5) 5 [0, 5, 46] [(0, pt d 0), (5, .int .i64 0), (46, pt d 3)] (by kernel_rfl) rfl ?_
     obtain ⟨w58, r59, H60⟩ := H10.st (P := Try.prog) (o := 3) (ty := 3) (v := .int .i64 0) 0 rfl (by kernel_rfl) (by simp) rfl
     have H60 : Hp w S [.blk d [.chan (some a0.ch), .chan (some a1.ch), .chan (some a2.ch), .int .i64 0, .int .i64 (a1.p : Int), .int .i64 (a2.p : Int), .bool cl] 52, .obj a0.ch (chO room a0.l cl a0.s a0.r), .obj a1.ch (chO room a1.l cl a1.s a1.r), .obj a2.ch (chO room a2.l cl a2.s a2.r), .bag Gg] w58 := H60
     refine GL.semU (j := 6) r59 [0, 5] [(0, pt d 0), (5, .int .i64 0)] (by kernel_rfl) rfl rfl rfl ?_
     refine GL.kN rfl hK57 (fun _ _ h => h) ?_
     refine GN.seqK fun K61 hK62 => ?_
     refine G.region ?_
     refine GL.run (j := 5) 5 [5, 51] [(5, .int .i64 0), (51, pt d 0)] (by kernel_rfl) rfl ?_
     refine GL.sem (j := 6) (H60.ld (o := 0) (ty := 49) (v := .chan (some a0.ch)) 0 rfl (by kernel_rfl) rfl) [5, 52] [(5, .int .i64 0), (52, .chan (some a0.ch))] (by kernel_rfl) (by kernel_rfl) rfl ?_
     refine GL.kN rfl hK62 (fun _ _ h => h) ?_
     refine GN.seqS fun K63 hK64 => ?_
     rw [hlk] at H60
     have H65 : Hp w S [.blk d [.chan (some a0.ch), .chan (some a1.ch), .chan (some a2.ch), .int .i64 0, .int .i64 (a1.p : Int), .int .i64 (a2.p : Int), .bool cl] 52, .obj a0.ch (chO room (m_ :: t_) cl a0.s a0.r), .obj a1.ch (chO room a1.l cl a1.s a1.r), .obj a2.ch (chO room a2.l cl a2.s a2.r), .bag Gg] w58 := H60
     refine GN.recvBuf (z := .slice none 0 0) H65 1 (l := t_) (m := m_) rfl rfl rfl rfl (zv _) (by kernel_rfl) [5, 53] [(5, .int .i64 0), (53, .tuple #[.int .i64 0, .bool true, .slice m_.A m_.b.length m_.c])] (by kernel_rfl) (fun w66 H67 => ?_)
     refine GL.run (j := 3) 2 [5, 53, 55] [(5, .int .i64 0), (53, .tuple #[.int .i64 0, .bool true, .slice m_.A m_.b.length m_.c]), (55, .bool true)] (by kernel_rfl) rfl ?_
     refine GL.k rfl hK64 (fun _ _ h => h) ?_
     refine G.block ?_
     refine G.yes rfl ?_
     refine G.seqK fun K68 hK69 => ?_
     refine G.region ?_
     refine GL.run (j := 2) 2 [5, 8] [(5, .int .i64 0), (8, .slice m_.A m_.b.length m_.c)] (by kernel_rfl) rfl ?_
     refine GL.k rfl hK69 (fun _ _ h => h) ?_
     refine G.seqK fun K70 hK71 => ?_
     refine G.region ?_
     refine GL.run (j := 5) 5 [2, 3, 4] [(2, .slice m_.A m_.b.length m_.c), (3, .int .i64 0), (4, .bool true)] (by kernel_rfl) rfl ?_
     refine GL.k rfl hK71 (fun _ _ h => h) ?_
     refine G.ret ?_
     intro F_ hF_ hM_
     refine hRet _ _ (bodyPost_3 rfl (RV.tmp rfl) (RV.tmp rfl) (RV.tmp rfl) ?_ F_ hF_ hM_)
     have HZ : Hp w S [.blk d [.chan (some (a0.took t_).ch), .chan (some a1.pass.ch), .chan (some a2.pass.ch), .int .i64 (((a0.took t_).p : Nat) : Int), .int .i64 (a1.pass.p : Int), .int .i64 (a2.pass.p : Int), .bool cl] 52, .obj (a0.took t_).ch (chO room (a0.took t_).l cl (a0.took t_).s (a0.took t_).r), .obj a1.pass.ch (chO room a1.pass.l cl a1.pass.s a1.pass.r), .obj a2.pass.ch (chO room a2.pass.l cl a2.pass.s a2.pass.r), .bag Gg] w66 := by rw [show a1.pass.p = a1.p by unfold Lane.pass; exact if_pos (by omega), show a2.pass.p = a2.p by unfold Lane.pass; exact if_pos (by omega)]; exact H67
     exact ⟨rfl, HZ⟩
   · skip
     have hb51f := of_decide_eq_true hb51
     refine G.yes rfl ?_
     refine G.tail 10 (by kernel_rfl) (by kernel_rfl) ?_
     have H72 := H10.drew
     generalize ({ w9 with drawn := w9.drawn + 1 } : World) = w73 at H72 ⊢
     refine GS.run (j := 5) 5 [0, 5, 18, 19, 31, 32, 35] [(0, pt d 0), (5, .int .i64 0), (18, .agg #[.chan (some a0.ch), .chan (some a1.ch), .chan (some a2.ch)]), (19, .int .i64 2), (31, pt d 0), (32, .int .i64 2), (35, pt d 5)] (by kernel_rfl) rfl rfl ?_
     refine GS.sem (j := 6) (H72.ld (o := 5) (ty := 3) (v := .int .i64 (a2.p : Int)) 0 rfl (by kernel_rfl) rfl) [0, 5, 18, 19, 31, 32, 36] [(0, pt d 0), (5, .int .i64 0), (18, .agg #[.chan (some a0.ch), .chan (some a1.ch), .chan (some a2.ch)]), (19, .int .i64 2), (31, pt d 0), (32, .int .i64 2), (36, .int .i64 (a2.p : Int))] (by kernel_rfl) (by kernel_rfl) rfl rfl ?_
     refine GS.run (j := 10) 4 [0, 5, 18, 19, 37, 40] [(0, pt d 0), (5, .int .i64 0), (18, .agg #[.chan (some a0.ch), .chan (some a1.ch), .chan (some a2.ch)]), (19, .int .i64 2), (37, .int .i64 (IntKind.i64.wrap ((a2.p : Int) + 1))), (40, pt d 5)] (by kernel_rfl) rfl rfl ?_
     have e74 : (IntKind.i64.wrap ((a2.p : Int) + 1)) = ((a2.p + 1 : Nat) : Int) := by rw [in_i64 (by omega)]; omega
     refine GS.eq (M' := [(0, pt d 0), (5, .int .i64 0), (18, .agg #[.chan (some a0.ch), .chan (some a1.ch), .chan (some a2.ch)]), (19, .int .i64 2), (37, .int .i64 ((a2.p + 1 : Nat) : Int)), (40, pt d 5)]) (by rw [e74]) ?_
     clear e74
     refine GS.tail rfl ?_
     obtain ⟨w75, r76, H77⟩ := H72.st (P := Try.prog) (o := 5) (ty := 3) (v := .int .i64 ((a2.p + 1 : Nat) : Int)) 0 rfl (by kernel_rfl) (by simp) rfl
     have H77 : Hp w S [.blk d [.chan (some a0.ch), .chan (some a1.ch), .chan (some a2.ch), .int .i64 (a0.p : Int), .int .i64 (a1.p : Int), .int .i64 ((a2.p + 1 : Nat) : Int), .bool cl] 52, .obj a0.ch (chO room a0.l cl a0.s a0.r), .obj a1.ch (chO room a1.l cl a1.s a1.r), .obj a2.ch (chO room a2.l cl a2.s a2.r), .bag Gg] w75 := H77
     refine GL.semU (j := 11) r76 [0, 5, 18, 19] [(0, pt d 0), (5, .int .i64 0), (18, .agg #[.chan (some a0.ch), .chan (some a1.ch), .chan (some a2.ch)]), (19, .int .i64 2)] (by kernel_rfl) rfl rfl rfl ?_
     refine GL.k rfl hK46 (fun _ _ h => h) ?_
     refine G.region ?_
     refine GL.run (j := 2) 2 [0, 5, 18, 19] [(0, pt d 0), (5, .int .i64 0), (18, .agg #[.chan (some a0.ch), .chan (some a1.ch), .chan (some a2.ch)]), (19, .int .i64 3)] (by kernel_rfl) rfl ?_
     refine GL.round rfl ?_
     refine G.seqK fun K78 hK79 => ?_
     refine G.region ?_
     refine GL.run (j := 1) 1 [0, 5, 18, 19, 20] [(0, pt d 0), (5, .int .i64 0), (18, .agg #[.chan (some a0.ch), .chan (some a1.ch), .chan (some a2.ch)]), (19, .int .i64 3), (20, .bool false)] (by kernel_rfl) rfl ?_
     refine GL.k rfl hK79 (fun _ _ h => h) ?_
     refine G.seqK fun K80 hK81 => ?_
     refine G.no rfl ?_
     refine G.exitKN hK17 (fun _ _ h => h) ?_
     refine GN.seqK fun K82 hK83 => ?_
     refine G.region ?_
     refine GL.run (j := 5) 5 [0, 5, 46] [(0, pt d 0), (5, .int .i64 0), (46, pt d 3)] (by kernel_rfl) rfl ?_
     obtain ⟨w84, r85, H86⟩ := H77.st (P := Try.prog) (o := 3) (ty := 3) (v := .int .i64 0) 0 rfl (by kernel_rfl) (by simp) rfl
     have H86 : Hp w S [.blk d [.chan (some a0.ch), .chan (some a1.ch), .chan (some a2.ch), .int .i64 0, .int .i64 (a1.p : Int), .int .i64 ((a2.p + 1 : Nat) : Int), .bool cl] 52, .obj a0.ch (chO room a0.l cl a0.s a0.r), .obj a1.ch (chO room a1.l cl a1.s a1.r), .obj a2.ch (chO room a2.l cl a2.s a2.r), .bag Gg] w84 := H86
     refine GL.semU (j := 6) r85 [0, 5] [(0, pt d 0), (5, .int .i64 0)] (by kernel_rfl) rfl rfl rfl ?_
     refine GL.kN rfl hK83 (fun _ _ h => h) ?_
     refine GN.seqK fun K87 hK88 => ?_
     refine G.region ?_
     refine GL.run (j := 5) 5 [5, 51] [(5, .int .i64 0), (51, pt d 0)] (by kernel_rfl) rfl ?_
     refine GL.sem (j := 6) (H86.ld (o := 0) (ty := 49) (v := .chan (some a0.ch)) 0 rfl (by kernel_rfl) rfl) [5, 52] [(5, .int .i64 0), (52, .chan (some a0.ch))] (by kernel_rfl) (by kernel_rfl) rfl ?_
     refine GL.kN rfl hK88 (fun _ _ h => h) ?_
     refine GN.seqS fun K89 hK90 => ?_
     rw [hlk] at H86
     have H91 : Hp w S [.blk d [.chan (some a0.ch), .chan (some a1.ch), .chan (some a2.ch), .int .i64 0, .int .i64 (a1.p : Int), .int .i64 ((a2.p + 1 : Nat) : Int), .bool cl] 52, .obj a0.ch (chO room (m_ :: t_) cl a0.s a0.r), .obj a1.ch (chO room a1.l cl a1.s a1.r), .obj a2.ch (chO room a2.l cl a2.s a2.r), .bag Gg] w84 := H86
     refine GN.recvBuf (z := .slice none 0 0) H91 1 (l := t_) (m := m_) rfl rfl rfl rfl (zv _) (by kernel_rfl) [5, 53] [(5, .int .i64 0), (53, .tuple #[.int .i64 0, .bool true, .slice m_.A m_.b.length m_.c])] (by kernel_rfl) (fun w92 H93 => ?_)
     refine GL.run (j := 3) 2 [5, 53, 55] [(5, .int .i64 0), (53, .tuple #[.int .i64 0, .bool true, .slice m_.A m_.b.length m_.c]), (55, .bool true)] (by kernel_rfl) rfl ?_
     refine GL.k rfl hK90 (fun _ _ h => h) ?_
     refine G.block ?_
     refine G.yes rfl ?_
     refine G.seqK fun K94 hK95 => ?_
     refine G.region ?_
     refine GL.run (j := 2) 2 [5, 8] [(5, .int .i64 0), (8, .slice m_.A m_.b.length m_.c)] (by kernel_rfl) rfl ?_
     refine GL.k rfl hK95 (fun _ _ h => h) ?_
     refine G.seqK fun K96 hK97 => ?_
     refine G.region ?_
     refine GL.run (j := 5) 5 [2, 3, 4] [(2, .slice m_.A m_.b.length m_.c), (3, .int .i64 0), (4, .bool true)] (by kernel_rfl) rfl ?_
     refine GL.k rfl hK97 (fun _ _ h => h) ?_
     refine G.ret ?_
     intro F_ hF_ hM_
     refine hRet _ _ (bodyPost_3 rfl (RV.tmp rfl) (RV.tmp rfl) (RV.tmp rfl) ?_ F_ hF_ hM_)
     have HZ : Hp w S [.blk d [.chan (some (a0.took t_).ch), .chan (some a1.pass.ch), .chan (some a2.pass.ch), .int .i64 (((a0.took t_).p : Nat) : Int), .int .i64 (a1.pass.p : Int), .int .i64 (a2.pass.p : Int), .bool cl] 52, .obj (a0.took t_).ch (chO room (a0.took t_).l cl (a0.took t_).s (a0.took t_).r), .obj a1.pass.ch (chO room a1.pass.l cl a1.pass.s a1.pass.r), .obj a2.pass.ch (chO room a2.pass.l cl a2.pass.s a2.pass.r), .bag Gg] w92 := by rw [show a1.pass.p = a1.p by unfold Lane.pass; exact if_pos (by omega), show a2.pass.p = a2.p + 1 by unfold Lane.pass; exact if_neg (by omega)]; exact H93
     exact ⟨rfl, HZ⟩
 · skip
   have hb40f := of_decide_eq_true hb40
   refine G.yes rfl ?_
   refine G.tail 10 (by kernel_rfl) (by kernel_rfl) ?_
   have H98 := H10.drew
   generalize ({ w9 with drawn := w9.drawn + 1 } : World) = w99 at H98 ⊢
   refine GS.run (j := 5) 5 [0, 5, 18, 19, 31, 32, 35] [(0, pt d 0), (5, .int .i64 0), (18, .agg #[.chan (some a0.ch), .chan (some a1.ch), .chan (some a2.ch)]), (19, .int .i64 1), (31, pt d 0), (32, .int .i64 1), (35, pt d 4)] (by kernel_rfl) rfl rfl ?_
   refine GS.sem (j := 6) (H98.ld (o := 4) (ty := 3) (v := .int .i64 (a1.p : Int)) 0 rfl (by kernel_rfl) rfl) [0, 5, 18, 19, 31, 32, 36] [(0, pt d 0), (5, .int .i64 0), (18, .agg #[.chan (some a0.ch), .chan (some a1.ch), .chan (some a2.ch)]), (19, .int .i64 1), (31, pt d 0), (32, .int .i64 1), (36, .int .i64 (a1.p : Int))] (by kernel_rfl) (by kernel_rfl) rfl rfl ?_
   refine GS.run (j := 10) 4 [0, 5, 18, 19, 37, 40] [(0, pt d 0), (5, .int .i64 0), (18, .agg #[.chan (some a0.ch), .chan (some a1.ch), .chan (some a2.ch)]), (19, .int .i64 1), (37, .int .i64 (IntKind.i64.wrap ((a1.p : Int) + 1))), (40, pt d 4)] (by kernel_rfl) rfl rfl ?_
   have e100 : (IntKind.i64.wrap ((a1.p : Int) + 1)) = ((a1.p + 1 : Nat) : Int) := by rw [in_i64 (by omega)]; omega
   refine GS.eq (M' := [(0, pt d 0), (5, .int .i64 0), (18, .agg #[.chan (some a0.ch), .chan (some a1.ch), .chan (some a2.ch)]), (19, .int .i64 1), (37, .int .i64 ((a1.p + 1 : Nat) : Int)), (40, pt d 4)]) (by rw [e100]) ?_
   clear e100
   refine GS.tail rfl ?_
   obtain ⟨w101, r102, H103⟩ := H98.st (P := Try.prog) (o := 4) (ty := 3) (v := .int .i64 ((a1.p + 1 : Nat) : Int)) 0 rfl (by kernel_rfl) (by simp) rfl
   have H103 : Hp w S [.blk d [.chan (some a0.ch), .chan (some a1.ch), .chan (some a2.ch), .int .i64 (a0.p : Int), .int .i64 ((a1.p + 1 : Nat) : Int), .int .i64 (a2.p : Int), .bool cl] 52, .obj a0.ch (chO room a0.l cl a0.s a0.r), .obj a1.ch (chO room a1.l cl a1.s a1.r), .obj a2.ch (chO room a2.l cl a2.s a2.r), .bag Gg] w101 := H103
   refine GL.semU (j := 11) r102 [0, 5, 18, 19] [(0, pt d 0), (5, .int .i64 0), (18, .agg #[.chan (some a0.ch), .chan (some a1.ch), .chan (some a2.ch)]), (19, .int .i64 1)] (by kernel_rfl) rfl rfl rfl ?_
   refine GL.k rfl hK35 (fun _ _ h => h) ?_
   refine G.region ?_
   refine GL.run (j := 2) 2 [0, 5, 18, 19] [(0, pt d 0), (5, .int .i64 0), (18, .agg #[.chan (some a0.ch), .chan (some a1.ch), .chan (some a2.ch)]), (19, .int .i64 2)] (by kernel_rfl) rfl ?_
   refine GL.round rfl ?_
   refine G.seqK fun K104 hK105 => ?_
   refine G.region ?_
   refine GL.run (j := 1) 1 [0, 5, 18, 19, 20] [(0, pt d 0), (5, .int .i64 0), (18, .agg #[.chan (some a0.ch), .chan (some a1.ch), .chan (some a2.ch)]), (19, .int .i64 2), (20, .bool true)] (by kernel_rfl) rfl ?_
   refine GL.k rfl hK105 (fun _ _ h => h) ?_
   refine G.seqK fun K106 hK107 => ?_
   refine G.yes rfl ?_
   refine G.skipK hK107 (fun _ _ h => h) ?_
   refine G.seqK fun K108 hK109 => ?_
   refine G.block ?_
   refine G.seqK fun K110 hK111 => ?_
   refine G.region ?_
   refine GL.run (j := 4) 4 [0, 5, 6, 7, 18, 19] [(0, pt d 0), (5, .int .i64 0), (6, .int .i64 2), (7, .chan (some a2.ch)), (18, .agg #[.chan (some a0.ch), .chan (some a1.ch), .chan (some a2.ch)]), (19, .int .i64 2)] (by kernel_rfl) rfl ?_
   refine GL.k rfl hK111 (fun _ _ h => h) ?_
   refine G.seqK fun K112 hK113 => ?_
   refine G.region ?_
   refine GL.run (j := 5) 5 [0, 5, 6, 18, 19, 26, 27] [(0, pt d 0), (5, .int .i64 0), (6, .int .i64 2), (18, .agg #[.chan (some a0.ch), .chan (some a1.ch), .chan (some a2.ch)]), (19, .int .i64 2), (26, .bool true), (27, .chan (some a2.ch))] (by kernel_rfl) rfl ?_
   refine GL.sem (j := 6) (H103.lenChan (P := Try.prog) (t := 49) (ty := 3) (l := a2.l) 3 rfl Try.underlying49) [0, 5, 6, 18, 19, 26, 28] [(0, pt d 0), (5, .int .i64 0), (6, .int .i64 2), (18, .agg #[.chan (some a0.ch), .chan (some a1.ch), .chan (some a2.ch)]), (19, .int .i64 2), (26, .bool true), (28, .int .i64 (a2.l.length : Int))] (by kernel_rfl) (by kernel_rfl) rfl ?_
   refine GL.run (j := 8) 2 [0, 5, 6, 18, 19, 30] [(0, pt d 0), (5, .int .i64 0), (6, .int .i64 2), (18, .agg #[.chan (some a0.ch), .chan (some a1.ch), .chan (some a2.ch)]), (19, .int .i64 2), (30, .bool (decide (0 < (a2.l.length : Int))))] (by kernel_rfl) rfl ?_
   refine GL.k rfl hK113 (fun _ _ h => h) ?_
   cases hb114 : (decide (0 < (a2.l.length : Int)))
   · skip
     have hb114f := of_decide_eq_false hb114
     refine G.no rfl ?_
     refine G.skipK hK109 (fun _ _ h => h) ?_
     refine G.region ?_
     refine GL.run (j := 2) 2 [0, 5, 18, 19] [(0, pt d 0), (5, .int .i64 0), (18, .agg #[.chan (some a0.ch), .chan (some a1.ch), .chan (some a2.ch)]), (19, .int .i64 3)] (by kernel_rfl) rfl ?_
     refine GL.round rfl ?_
     refine G.seqK fun K115 hK116 => ?_
     refine G.region ?_
     refine GL.run (j := 1) 1 [0, 5, 18, 19, 20] [(0, pt d 0), (5, .int .i64 0), (18, .agg #[.chan (some a0.ch), .chan (some a1.ch), .chan (some a2.ch)]), (19, .int .i64 3), (20, .bool false)] (by kernel_rfl) rfl ?_
     refine GL.k rfl hK116 (fun _ _ h => h) ?_
     refine G.seqK fun K117 hK118 => ?_
     refine G.no rfl ?_
     refine G.exitKN hK17 (fun _ _ h => h) ?_
     refine GN.seqK fun K119 hK120 => ?_
     refine G.region ?_
     refine GL.run (j := 5) 5 [0, 5, 46] [(0, pt d 0), (5, .int .i64 0), (46, pt d 3)] (by kernel_rfl) rfl ?_
     obtain ⟨w121, r122, H123⟩ := H103.st (P := Try.prog) (o := 3) (ty := 3) (v := .int .i64 0) 0 rfl (by kernel_rfl) (by simp) rfl
     have H123 : Hp w S [.blk d [.chan (some a0.ch), .chan (some a1.ch), .chan (some a2.ch), .int .i64 0, .int .i64 ((a1.p + 1 : Nat) : Int), .int .i64 (a2.p : Int), .bool cl] 52, .obj a0.ch (chO room a0.l cl a0.s a0.r), .obj a1.ch (chO room a1.l cl a1.s a1.r), .obj a2.ch (chO room a2.l cl a2.s a2.r), .bag Gg] w121 := H123
     refine GL.semU (j := 6) r122 [0, 5] [(0, pt d 0), (5, .int .i64 0)] (by kernel_rfl) rfl rfl rfl ?_
     refine GL.kN rfl hK120 (fun _ _ h => h) ?_
     refine GN.seqK fun K124 hK125 => ?_
     refine G.region ?_
     refine GL.run (j := 5) 5 [5, 51] [(5, .int .i64 0), (51, pt d 0)] (by kernel_rfl) rfl ?_
     refine GL.sem (j := 6) (H123.ld (o := 0) (ty := 49) (v := .chan (some a0.ch)) 0 rfl (by kernel_rfl) rfl) [5, 52] [(5, .int .i64 0), (52, .chan (some a0.ch))] (by kernel_rfl) (by kernel_rfl) rfl ?_
     refine GL.kN rfl hK125 (fun _ _ h => h) ?_
     refine GN.seqS fun K126 hK127 => ?_
     rw [hlk] at H123
     have H128 : Hp w S [.blk d [.chan (some a0.ch), .chan (some a1.ch), .chan (some a2.ch), .int .i64 0, .int .i64 ((a1.p + 1 : Nat) : Int), .int .i64 (a2.p : Int), .bool cl] 52, .obj a0.ch (chO room (m_ :: t_) cl a0.s a0.r), .obj a1.ch (chO room a1.l cl a1.s a1.r), .obj a2.ch (chO room a2.l cl a2.s a2.r), .bag Gg] w121 := H123
     refine GN.recvBuf (z := .slice none 0 0) H128 1 (l := t_) (m := m_) rfl rfl rfl rfl (zv _) (by kernel_rfl) [5, 53] [(5, .int .i64 0), (53, .tuple #[.int .i64 0, .bool true, .slice m_.A m_.b.length m_.c])] (by kernel_rfl) (fun w129 H130 => ?_)
     refine GL.run (j := 3) 2 [5, 53, 55] [(5, .int .i64 0), (53, .tuple #[.int .i64 0, .bool true, .slice m_.A m_.b.length m_.c]), (55, .bool true)] (by kernel_rfl) rfl ?_
     refine GL.k rfl hK127 (fun _ _ h => h) ?_
     refine G.block ?_
     refine G.yes rfl ?_
     refine G.seqK fun K131 hK132 => ?_
     refine G.region ?_
     refine GL.run (j := 2) 2 [5, 8] [(5, .int .i64 0), (8, .slice m_.A m_.b.length m_.c)] (by kernel_rfl) rfl ?_
     refine GL.k rfl hK132 (fun _ _ h => h) ?_
     refine G.seqK fun K133 hK134 => ?_
     refine G.region ?_
     refine GL.run (j := 5) 5 [2, 3, 4] [(2, .slice m_.A m_.b.length m_.c), (3, .int .i64 0), (4, .bool true)] (by kernel_rfl) rfl ?_
     refine GL.k rfl hK134 (fun _ _ h => h) ?_
     refine G.ret ?_
     intro F_ hF_ hM_
     refine hRet _ _ (bodyPost_3 rfl (RV.tmp rfl) (RV.tmp rfl) (RV.tmp rfl) ?_ F_ hF_ hM_)
     have HZ : Hp w S [.blk d [.chan (some (a0.took t_).ch), .chan (some a1.pass.ch), .chan (some a2.pass.ch), .int .i64 (((a0.took t_).p : Nat) : Int), .int .i64 (a1.pass.p : Int), .int .i64 (a2.pass.p : Int), .bool cl] 52, .obj (a0.took t_).ch (chO room (a0.took t_).l cl (a0.took t_).s (a0.took t_).r), .obj a1.pass.ch (chO room a1.pass.l cl a1.pass.s a1.pass.r), .obj a2.pass.ch (chO room a2.pass.l cl a2.pass.s a2.pass.r), .bag Gg] w129 := by rw [show a1.pass.p = a1.p + 1 by unfold Lane.pass; exact if_neg (by omega), show a2.pass.p = a2.p by unfold Lane.pass; exact if_pos (by omega)]; exact H130
     exact ⟨rfl, HZ⟩
   · skip
     have hb114f := of_decide_eq_true hb114
     refine G.yes rfl ?_
     refine G.tail 10 (by kernel_rfl) (by kernel_rfl) ?_
     have H135 := H103.drew
     generalize ({ w101 with drawn := w101.drawn + 1 } : World) = w136 at H135 ⊢
     refine GS.run (j := 5) 5 [0, 5, 18, 19, 31, 32, 35] [(0, pt d 0), (5, .int .i64 0), (18, .agg #[.chan (some a0.ch), .chan (some a1.ch), .chan (some a2.ch)]), (19, .int .i64 2), (31, pt d 0), (32, .int .i64 2), (35, pt d 5)] (by kernel_rfl) rfl rfl ?_
     refine GS.sem (j := 6) (H135.ld (o := 5) (ty := 3) (v := .int .i64 (a2.p : Int)) 0 rfl (by kernel_rfl) rfl) [0, 5, 18, 19, 31, 32, 36] [(0, pt d 0), (5, .int .i64 0), (18, .agg #[.chan (some a0.ch), .chan (some a1.ch), .chan (some a2.ch)]), (19, .int .i64 2), (31, pt d 0), (32, .int .i64 2), (36, .int .i64 (a2.p : Int))] (by kernel_rfl) (by kernel_rfl) rfl rfl ?_
     refine GS.run (j := 10) 4 [0, 5, 18, 19, 37, 40] [(0, pt d 0), (5, .int .i64 0), (18, .agg #[.chan (some a0.ch), .chan (some a1.ch), .chan (some a2.ch)]), (19, .int .i64 2), (37, .int .i64 (IntKind.i64.wrap ((a2.p : Int) + 1))), (40, pt d 5)] (by kernel_rfl) rfl rfl ?_
     have e137 : (IntKind.i64.wrap ((a2.p : Int) + 1)) = ((a2.p + 1 : Nat) : Int) := by rw [in_i64 (by omega)]; omega
     refine GS.eq (M' := [(0, pt d 0), (5, .int .i64 0), (18, .agg #[.chan (some a0.ch), .chan (some a1.ch), .chan (some a2.ch)]), (19, .int .i64 2), (37, .int .i64 ((a2.p + 1 : Nat) : Int)), (40, pt d 5)]) (by rw [e137]) ?_
     clear e137
     refine GS.tail rfl ?_
     obtain ⟨w138, r139, H140⟩ := H135.st (P := Try.prog) (o := 5) (ty := 3) (v := .int .i64 ((a2.p + 1 : Nat) : Int)) 0 rfl (by kernel_rfl) (by simp) rfl
     have H140 : Hp w S [.blk d [.chan (some a0.ch), .chan (some a1.ch), .chan (some a2.ch), .int .i64 (a0.p : Int), .int .i64 ((a1.p + 1 : Nat) : Int), .int .i64 ((a2.p + 1 : Nat) : Int), .bool cl] 52, .obj a0.ch (chO room a0.l cl a0.s a0.r), .obj a1.ch (chO room a1.l cl a1.s a1.r), .obj a2.ch (chO room a2.l cl a2.s a2.r), .bag Gg] w138 := H140
     refine GL.semU (j := 11) r139 [0, 5, 18, 19] [(0, pt d 0), (5, .int .i64 0), (18, .agg #[.chan (some a0.ch), .chan (some a1.ch), .chan (some a2.ch)]), (19, .int .i64 2)] (by kernel_rfl) rfl rfl rfl ?_
     refine GL.k rfl hK109 (fun _ _ h => h) ?_
     refine G.region ?_
     refine GL.run (j := 2) 2 [0, 5, 18, 19] [(0, pt d 0), (5, .int .i64 0), (18, .agg #[.chan (some a0.ch), .chan (some a1.ch), .chan (some a2.ch)]), (19, .int .i64 3)] (by kernel_rfl) rfl ?_
     refine GL.round rfl ?_
     refine G.seqK fun K141 hK142 => ?_
     refine G.region ?_
     refine GL.run (j := 1) 1 [0, 5, 18, 19, 20] [(0, pt d 0), (5, .int .i64 0), (18, .agg #[.chan (some a0.ch), .chan (some a1.ch), .chan (some a2.ch)]), (19, .int .i64 3), (20, .bool false)] (by kernel_rfl) rfl ?_
     refine GL.k rfl hK142 (fun _ _ h => h) ?_
     refine G.seqK fun K143 hK144 => ?_
     refine G.no rfl ?_
     refine G.exitKN hK17 (fun _ _ h => h) ?_
     refine GN.seqK fun K145 hK146 => ?_
     refine G.region ?_
     refine GL.run (j := 5) 5 [0, 5, 46] [(0, pt d 0), (5, .int .i64 0), (46, pt d 3)] (by kernel_rfl) rfl ?_
     obtain ⟨w147, r148, H149⟩ := H140.st (P := Try.prog) (o := 3) (ty := 3) (v := .int .i64 0) 0 rfl (by kernel_rfl) (by simp) rfl
     have H149 : Hp w S [.blk d [.chan (some a0.ch), .chan (some a1.ch), .chan (some a2.ch), .int .i64 0, .int .i64 ((a1.p + 1 : Nat) : Int), .int .i64 ((a2.p + 1 : Nat) : Int), .bool cl] 52, .obj a0.ch (chO room a0.l cl a0.s a0.r), .obj a1.ch (chO room a1.l cl a1.s a1.r), .obj a2.ch (chO room a2.l cl a2.s a2.r), .bag Gg] w147 := H149
     refine GL.semU (j := 6) r148 [0, 5] [(0, pt d 0), (5, .int .i64 0)] (by kernel_rfl) rfl rfl rfl ?_
     refine GL.kN rfl hK146 (fun _ _ h => h) ?_
     refine GN.seqK fun K150 hK151 => ?_
     refine G.region ?_
     refine GL.run (j := 5) 5 [5, 51] [(5, .int .i64 0), (51, pt d 0)] (by kernel_rfl) rfl ?_
     refine GL.sem (j := 6) (H149.ld (o := 0) (ty := 49) (v := .chan (some a0.ch)) 0 rfl (by kernel_rfl) rfl) [5, 52] [(5, .int .i64 0), (52, .chan (some a0.ch))] (by kernel_rfl) (by kernel_rfl) rfl ?_
     refine GL.kN rfl hK151 (fun _ _ h => h) ?_
     refine GN.seqS fun K152 hK153 => ?_
     rw [hlk] at H149
     have H154 : Hp w S [.blk d [.chan (some a0.ch), .chan (some a1.ch), .chan (some a2.ch), .int .i64 0, .int .i64 ((a1.p + 1 : Nat) : Int), .int .i64 ((a2.p + 1 : Nat) : Int), .bool cl] 52, .obj a0.ch (chO room (m_ :: t_) cl a0.s a0.r), .obj a1.ch (chO room a1.l cl a1.s a1.r), .obj a2.ch (chO room a2.l cl a2.s a2.r), .bag Gg] w147 := H149
     refine GN.recvBuf (z := .slice none 0 0) H154 1 (l := t_) (m := m_) rfl rfl rfl rfl (zv _) (by kernel_rfl) [5, 53] [(5, .int .i64 0), (53, .tuple #[.int .i64 0, .bool true, .slice m_.A m_.b.length m_.c])] (by kernel_rfl) (fun w155 H156 => ?_)
     refine GL.run (j := 3) 2 [5, 53, 55] [(5, .int .i64 0), (53, .tuple #[.int .i64 0, .bool true, .slice m_.A m_.b.length m_.c]), (55, .bool true)] (by kernel_rfl) rfl ?_
     refine GL.k rfl hK153 (fun _ _ h => h) ?_
     refine G.block ?_
     refine G.yes rfl ?_
     refine G.seqK fun K157 hK158 => ?_
     refine G.region ?_
     refine GL.run (j := 2) 2 [5, 8] [(5, .int .i64 0), (8, .slice m_.A m_.b.length m_.c)] (by kernel_rfl) rfl ?_
     refine GL.k rfl hK158 (fun _ _ h => h) ?_
     refine G.seqK fun K159 hK160 => ?_
     refine G.region ?_
     refine GL.run (j := 5) 5 [2, 3, 4] [(2, .slice m_.A m_.b.length m_.c), (3, .int .i64 0), (4, .bool true)] (by kernel_rfl) rfl ?_
     refine GL.k rfl hK160 (fun _ _ h => h) ?_
     refine G.ret ?_
     intro F_ hF_ hM_
     refine hRet _ _ (bodyPost_3 rfl (RV.tmp rfl) (RV.tmp rfl) (RV.tmp rfl) ?_ F_ hF_ hM_)
     have HZ : Hp w S [.blk d [.chan (some (a0.took t_).ch), .chan (some a1.pass.ch), .chan (some a2.pass.ch), .int .i64 (((a0.took t_).p : Nat) : Int), .int .i64 (a1.pass.p : Int), .int .i64 (a2.pass.p : Int), .bool cl] 52, .obj (a0.took t_).ch (chO room (a0.took t_).l cl (a0.took t_).s (a0.took t_).r), .obj a1.pass.ch (chO room a1.pass.l cl a1.pass.s a1.pass.r), .obj a2.pass.ch (chO room a2.pass.l cl a2.pass.s a2.pass.r), .bag Gg] w155 := by rw [show a1.pass.p = a1.p + 1 by unfold Lane.pass; exact if_neg (by omega), show a2.pass.p = a2.p + 1 by unfold Lane.pass; exact if_neg (by omega)]; exact H156
     exact ⟨rfl, HZ⟩
set_option maxHeartbeats 4000000 in
theorem Take1_calls (S : List Nat) (d room : Nat) (cl : Bool) (a0 a1 a2 : Lane) (Gg : List (Option Addr × Nat × Nat × TypeId × List Value)) (m_ : Msg) (t_ : List Msg) (w : World) (h0 : Hp w S [.blk d [.chan (some a0.ch), .chan (some a1.ch), .chan (some a2.ch), .int .i64 (a0.p : Int), .int .i64 (a1.p : Int), .int .i64 (a2.p : Int), .bool cl] 52, .obj a0.ch (chO room a0.l cl a0.s a0.r), .obj a1.ch (chO room a1.l cl a1.s a1.r), .obj a2.ch (chO room a2.l cl a2.s a2.r), .bag Gg] w) (hz0 : a0.z) (hz1 : a1.z) (hz2 : a2.z) (htk : tkN a0 a1 a2 = 1) (hlk : a1.l = m_ :: t_) : Calls Try.prog 9 #[pt d 0] w fun e w' => e = .returned (.tuple #[.slice m_.A m_.b.length m_.c, .int .i64 1, .bool true]) ∧ Hp w S [.blk d [.chan (some a0.pass.ch), .chan (some (a1.took t_).ch), .chan (some a2.pass.ch), .int .i64 (a0.pass.p : Int), .int .i64 (((a1.took t_).p : Nat) : Int), .int .i64 (a2.pass.p : Int), .bool cl] 52, .obj a0.pass.ch (chO room a0.pass.l cl a0.pass.s a0.pass.r), .obj (a1.took t_).ch (chO room (a1.took t_).l cl (a1.took t_).s (a1.took t_).r), .obj a2.pass.ch (chO room a2.pass.l cl a2.pass.s a2.pass.r), .bag Gg] w' := by
 have hzp0 := hz0.2
 have hzp1 := hz1.2
 have hzp2 := hz2.2
 refine calls_GN (args := [pt d 0]) Try.func9 rfl Try.ntmps9 rfl ?_
 intro Q0 hRet hNor hPan
 have H := h0
 have H : Hp w S [.blk d [.chan (some a0.ch), .chan (some a1.ch), .chan (some a2.ch), .int .i64 (a0.p : Int), .int .i64 (a1.p : Int), .int .i64 (a2.p : Int), .bool cl] 52, .obj a0.ch (chO room a0.l cl a0.s a0.r), .obj a1.ch (chO room a1.l cl a1.s a1.r), .obj a2.ch (chO room a2.l cl a2.s a2.r), .bag Gg] w := H
 refine GN.seqK fun K1 hK2 => ?_
 refine G.region ?_
 refine GL.run (j := 3) 3 [0] [(0, pt d 0)] (by kernel_rfl) rfl ?_
 refine GL.kN rfl hK2 (fun _ _ h => h) ?_
 refine GN.seqK fun K3 hK4 => ?_
 refine G.seqK fun K5 hK6 => ?_
 refine G.region ?_
 refine GL.run (j := 2) 2 [0, 10] [(0, pt d 0), (10, .bool false)] (by kernel_rfl) rfl ?_
 refine GL.k rfl hK6 (fun _ _ h => h) ?_
 refine G.no rfl ?_
 refine G.skipKN hK4 (fun _ _ h => h) ?_
 refine GN.seqK fun K7 hK8 => ?_
 refine G.region ?_
 refine GL.run (j := 1) 1 [0, 11] [(0, pt d 0), (11, pt d 0)] (by kernel_rfl) rfl ?_
 refine GL.call (j := 2) ((by have h_ := next_calls (ids [.blk d [.chan (some a0.ch), .chan (some a1.ch), .chan (some a2.ch), .int .i64 (a0.p : Int), .int .i64 (a1.p : Int), .int .i64 (a2.p : Int), .bool cl] 52, .obj a0.ch (chO room a0.l cl a0.s a0.r), .obj a1.ch (chO room a1.l cl a1.s a1.r), .obj a2.ch (chO room a2.l cl a2.s a2.r), .bag Gg]) d room cl a0 a1 a2 Gg w (Hp.startL (A := [.blk d [.chan (some a0.ch), .chan (some a1.ch), .chan (some a2.ch), .int .i64 (a0.p : Int), .int .i64 (a1.p : Int), .int .i64 (a2.p : Int), .bool cl] 52, .obj a0.ch (chO room a0.l cl a0.s a0.r), .obj a1.ch (chO room a1.l cl a1.s a1.r), .obj a2.ch (chO room a2.l cl a2.s a2.r), .bag Gg]) (B := []) H) hz0 hz1 hz2; rw [show tkI a0 a1 a2 = 1 by unfold tkI; rw [htk]; rfl] at h_; exact h_)) (by kernel_rfl) rfl (fun e_ w9 hR => ?_)
 obtain ⟨rfl, H11⟩ := hR
 have H10 : Hp w S [.blk d [.chan (some a0.ch), .chan (some a1.ch), .chan (some a2.ch), .int .i64 (a0.p : Int), .int .i64 (a1.p : Int), .int .i64 (a2.p : Int), .bool cl] 52, .obj a0.ch (chO room a0.l cl a0.s a0.r), .obj a1.ch (chO room a1.l cl a1.s a1.r), .obj a2.ch (chO room a2.l cl a2.s a2.r), .bag Gg] w9 := Hp.callL (A := [.blk d [.chan (some a0.ch), .chan (some a1.ch), .chan (some a2.ch), .int .i64 (a0.p : Int), .int .i64 (a1.p : Int), .int .i64 (a2.p : Int), .bool cl] 52, .obj a0.ch (chO room a0.l cl a0.s a0.r), .obj a1.ch (chO room a1.l cl a1.s a1.r), .obj a2.ch (chO room a2.l cl a2.s a2.r), .bag Gg]) (B := []) H H11
 refine ⟨_, rfl, [0, 12], [(0, pt d 0), (12, .int .i64 1)], by kernel_rfl, ?_⟩
 refine GL.run (j := 3) 1 [0, 5] [(0, pt d 0), (5, .int .i64 1)] (by kernel_rfl) rfl ?_
 refine GL.kN rfl hK8 (fun _ _ h => h) ?_
 refine GN.seqK fun K12 hK13 => ?_
 refine G.seqK fun K14 hK15 => ?_
 refine G.region ?_
 refine GL.run (j := 2) 2 [0, 5, 14] [(0, pt d 0), (5, .int .i64 1), (14, .bool false)] (by kernel_rfl) rfl ?_
 refine GL.k rfl hK15 (fun _ _ h => h) ?_
 refine G.no rfl ?_
 refine G.skipKN hK13 (fun _ _ h => h) ?_
 refine GN.seqK fun K16 hK17 => ?_
 refine G.seqK fun K18 hK19 => ?_
 refine G.region ?_
 refine GL.run (j := 3) 3 [0, 5, 17] [(0, pt d 0), (5, .int .i64 1), (17, pt d 0)] (by kernel_rfl) rfl ?_
 refine GL.sem (j := 4) (H10.ldA (o := 0) (ty := 50) (m := 3) (sub := [.chan (some a0.ch), .chan (some a1.ch), .chan (some a2.ch)]) 0 rfl (by kernel_rfl) rfl rfl) [0, 5, 18] [(0, pt d 0), (5, .int .i64 1), (18, .agg #[.chan (some a0.ch), .chan (some a1.ch), .chan (some a2.ch)])] (by kernel_rfl) (by kernel_rfl) rfl ?_
 refine GL.run (j := 5) 1 [0, 5, 18, 19] [(0, pt d 0), (5, .int .i64 1), (18, .agg #[.chan (some a0.ch), .chan (some a1.ch), .chan (some a2.ch)]), (19, .int .i64 0)] (by kernel_rfl) rfl ?_
 refine GL.k rfl hK19 (fun _ _ h => h) ?_
 refine G.block ?_
 refine G.unroll 3 ?_
 refine G.seqK fun K20 hK21 => ?_
 refine G.region ?_
 refine GL.run (j := 1) 1 [0, 5, 18, 19, 20] [(0, pt d 0), (5, .int .i64 1), (18, .agg #[.chan (some a0.ch), .chan (some a1.ch), .chan (some a2.ch)]), (19, .int .i64 0), (20, .bool true)] (by kernel_rfl) rfl ?_
 refine GL.k rfl hK21 (fun _ _ h => h) ?_
 refine G.seqK fun K22 hK23 => ?_
 refine G.yes rfl ?_
 refine G.skipK hK23 (fun _ _ h => h) ?_
 refine G.seqK fun K24 hK25 => ?_
 refine G.block ?_
 refine G.seqK fun K26 hK27 => ?_
 refine G.region ?_
 refine GL.run (j := 4) 4 [0, 5, 6, 7, 18, 19] [(0, pt d 0), (5, .int .i64 1), (6, .int .i64 0), (7, .chan (some a0.ch)), (18, .agg #[.chan (some a0.ch), .chan (some a1.ch), .chan (some a2.ch)]), (19, .int .i64 0)] (by kernel_rfl) rfl ?_
 refine GL.k rfl hK27 (fun _ _ h => h) ?_
 refine G.seqK fun K28 hK29 => ?_
 refine G.region ?_
 refine GL.run (j := 5) 5 [0, 5, 6, 18, 19, 26, 27] [(0, pt d 0), (5, .int .i64 1), (6, .int .i64 0), (18, .agg #[.chan (some a0.ch), .chan (some a1.ch), .chan (some a2.ch)]), (19, .int .i64 0), (26, .bool true), (27, .chan (some a0.ch))] (by kernel_rfl) rfl ?_
 refine GL.sem (j := 6) (H10.lenChan (P := Try.prog) (t := 49) (ty := 3) (l := a0.l) 1 rfl Try.underlying49) [0, 5, 6, 18, 19, 26, 28] [(0, pt d 0), (5, .int .i64 1), (6, .int .i64 0), (18, .agg #[.chan (some a0.ch), .chan (some a1.ch), .chan (some a2.ch)]), (19, .int .i64 0), (26, .bool true), (28, .int .i64 (a0.l.length : Int))] (by kernel_rfl) (by kernel_rfl) rfl ?_
 refine GL.run (j := 8) 2 [0, 5, 6, 18, 19, 30] [(0, pt d 0), (5, .int .i64 1), (6, .int .i64 0), (18, .agg #[.chan (some a0.ch), .chan (some a1.ch), .chan (some a2.ch)]), (19, .int .i64 0), (30, .bool (decide (0 < (a0.l.length : Int))))] (by kernel_rfl) rfl ?_
 refine GL.k rfl hK29 (fun _ _ h => h) ?_
 cases hb30 : (decide (0 < (a0.l.length : Int)))
 · skip
   have hb30f := of_decide_eq_false hb30
   refine G.no rfl ?_
   refine G.skipK hK25 (fun _ _ h => h) ?_
   refine G.region ?_
   refine GL.run (j := 2) 2 [0, 5, 18, 19] [(0, pt d 0), (5, .int .i64 1), (18, .agg #[.chan (some a0.ch), .chan (some a1.ch), .chan (some a2.ch)]), (19, .int .i64 1)] (by kernel_rfl) rfl ?_
   refine GL.round rfl ?_
   refine G.seqK fun K31 hK32 => ?_
   refine G.region ?_
   refine GL.run (j := 1) 1 [0, 5, 18, 19, 20] [(0, pt d 0), (5, .int .i64 1), (18, .agg #[.chan (some a0.ch), .chan (some a1.ch), .chan (some a2.ch)]), (19, .int .i64 1), (20, .bool true)] (by kernel_rfl) rfl ?_
   refine GL.k rfl hK32 (fun _ _ h => h) ?_
   refine G.seqK fun K33 hK34 => ?_
   refine G.yes rfl ?_
   refine G.skipK hK34 (fun _ _ h => h) ?_
   refine G.seqK fun K35 hK36 => ?_
   refine G.block ?_
   refine G.seqK fun K37 hK38 => ?_
   refine G.region ?_
   refine GL.run (j := 4) 4 [0, 5, 6, 7, 18, 19] [(0, pt d 0), (5, .int .i64 1), (6, .int .i64 1), (7, .chan (some a1.ch)), (18, .agg #[.chan (some a0.ch), .chan (some a1.ch), .chan (some a2.ch)]), (19, .int .i64 1)] (by kernel_rfl) rfl ?_
   refine GL.k rfl hK38 (fun _ _ h => h) ?_
   refine G.seqK fun K39 hK40 => ?_
   refine G.region ?_
   refine GL.run (j := 8) 8 [0, 5, 6, 18, 19, 30] [(0, pt d 0), (5, .int .i64 1), (6, .int .i64 1), (18, .agg #[.chan (some a0.ch), .chan (some a1.ch), .chan (some a2.ch)]), (19, .int .i64 1), (30, .bool false)] (by kernel_rfl) rfl ?_
   refine GL.k rfl hK40 (fun _ _ h => h) ?_
   refine G.no rfl ?_
   refine G.skipK hK36 (fun _ _ h => h) ?_
   refine G.region ?_
   refine GL.run (j := 2) 2 [0, 5, 18, 19] [(0, pt d 0), (5, .int .i64 1), (18, .agg #[.chan (some a0.ch), .chan (some a1.ch), .chan (some a2.ch)]), (19, .int .i64 2)] (by kernel_rfl) rfl ?_
   refine GL.round rfl ?_
   refine G.seqK fun K41 hK42 => ?_
   refine G.region ?_
   refine GL.run (j := 1) 1 [0, 5, 18, 19, 20] [(0, pt d 0), (5, .int .i64 1), (18, .agg #[.chan (some a0.ch), .chan (some a1.ch), .chan (some a2.ch)]), (19, .int .i64 2), (20, .bool true)] (by kernel_rfl) rfl ?_
   refine GL.k rfl hK42 (fun _ _ h => h) ?_
   refine G.seqK fun K43 hK44 => ?_
   refine G.yes rfl ?_
   refine G.skipK hK44 (fun _ _ h => h) ?_
   refine G.seqK fun K45 hK46 => ?_
   refine G.block ?_
   refine G.seqK fun K47 hK48 => ?_
   refine G.region ?_
   refine GL.run (j := 4) 4 [0, 5, 6, 7, 18, 19] [(0, pt d 0), (5, .int .i64 1), (6, .int .i64 2), (7, .chan (some a2.ch)), (18, .agg #[.chan (some a0.ch), .chan (some a1.ch), .chan (some a2.ch)]), (19, .int .i64 2)] (by kernel_rfl) rfl ?_
   refine GL.k rfl hK48 (fun _ _ h => h) ?_
   refine G.seqK fun K49 hK50 => ?_
   refine G.region ?_
   refine GL.run (j := 5) 5 [0, 5, 6, 18, 19, 26, 27] [(0, pt d 0), (5, .int .i64 1), (6, .int .i64 2), (18, .agg #[.chan (some a0.ch), .chan (some a1.ch), .chan (some a2.ch)]), (19, .int .i64 2), (26, .bool true), (27, .chan (some a2.ch))] (by kernel_rfl) rfl ?_
   refine GL.sem (j := 6) (H10.lenChan (P := Try.prog) (t := 49) (ty := 3) (l := a2.l) 3 rfl Try.underlying49) [0, 5, 6, 18, 19, 26, 28] [(0, pt d 0), (5, .int .i64 1), (6, .int .i64 2), (18, .agg #[.chan (some a0.ch), .chan (some a1.ch), .chan (some a2.ch)]), (19, .int .i64 2), (26, .bool true), (28, .int .i64 (a2.l.length : Int))] (by kernel_rfl) (by kernel_rfl) rfl ?_
   refine GL.run (j := 8) 2 [0, 5, 6, 18, 19, 30] [(0, pt d 0), (5, .int .i64 1), (6, .int .i64 2), (18, .agg #[.chan (some a0.ch), .chan (some a1.ch), .chan (some a2.ch)]), (19, .int .i64 2), (30, .bool (decide (0 < (a2.l.length : Int))))] (by kernel_rfl) rfl ?_
   refine GL.k rfl hK50 (fun _ _ h => h) ?_
   cases hb51 : (decide (0 < (a2.l.length : Int)))
   · skip
     have hb51f := of_decide_eq_false hb51
     refine G.no rfl ?_
     refine G.skipK hK46 (fun _ _ h => h) ?_
     refine G.region ?_
     refine GL.run (j := 2) 2 [0, 5, 18, 19] [(0, pt d 0), (5, .int .i64 1), (18, .agg #[.chan (some a0.ch), .chan (some a1.ch), .chan (some a2.ch)]), (19, .int .i64 3)] (by kernel_rfl) rfl ?_
     refine GL.round rfl ?_
     refine G.seqK fun K52 hK53 => ?_
     refine G.region ?_
     refine GL.run (j := 1) 1 [0, 5, 18, 19, 20] [(0, pt d 0), (5, .int .i64 1), (18, .agg #[.chan (some a0.ch), .chan (some a1.ch), .chan (some a2.ch)]), (19, .int .i64 3), (20, .bool false)] (by kernel_rfl) rfl ?_
     refine GL.k rfl hK53 (fun _ _ h => h) ?_
     refine G.seqK fun K54 hK55 => ?_
     refine G.no rfl ?_
     refine G.exitKN hK17 (fun _ _ h => h) ?_
     refine GN.seqK fun K56 hK57 => ?_
     refine G.region ?_
     refine GL.run (j := 5) 5 [0, 5, 46] [(0, pt d 0), (5, .int .i64 1), (46, pt d 4)] (by kernel_rfl) rfl ?_
     obtain ⟨w58, r59, H60⟩ := H10.st (P := Try.prog) (o := 4) (ty := 3) (v := .int .i64 0) 0 rfl (by kernel_rfl) (by simp) rfl
     have H60 : Hp w S [.blk d [.chan (some a0.ch), .chan (some a1.ch), .chan (some a2.ch), .int .i64 (a0.p : Int), .int .i64 0, .int .i64 (a2.p : Int), .bool cl] 52, .obj a0.ch (chO room a0.l cl a0.s a0.r), .obj a1.ch (chO room a1.l cl a1.s a1.r), .obj a2.ch (chO room a2.l cl a2.s a2.r), .bag Gg] w58 := H60
     refine GL.semU (j := 6) r59 [0, 5] [(0, pt d 0), (5, .int .i64 1)] (by kernel_rfl) rfl rfl rfl ?_
     refine GL.kN rfl hK57 (fun _ _ h => h) ?_
     refine GN.seqK fun K61 hK62 => ?_
     refine G.region ?_
     refine GL.run (j := 5) 5 [5, 51] [(5, .int .i64 1), (51, pt d 1)] (by kernel_rfl) rfl ?_
     refine GL.sem (j := 6) (H60.ld (o := 1) (ty := 49) (v := .chan (some a1.ch)) 0 rfl (by kernel_rfl) rfl) [5, 52] [(5, .int .i64 1), (52, .chan (some a1.ch))] (by kernel_rfl) (by kernel_rfl) rfl ?_
     refine GL.kN rfl hK62 (fun _ _ h => h) ?_
     refine GN.seqS fun K63 hK64 => ?_
     rw [hlk] at H60
     have H65 : Hp w S [.blk d [.chan (some a0.ch), .chan (some a1.ch), .chan (some a2.ch), .int .i64 (a0.p : Int), .int .i64 0, .int .i64 (a2.p : Int), .bool cl] 52, .obj a0.ch (chO room a0.l cl a0.s a0.r), .obj a1.ch (chO room (m_ :: t_) cl a1.s a1.r), .obj a2.ch (chO room a2.l cl a2.s a2.r), .bag Gg] w58 := H60
     refine GN.recvBuf (z := .slice none 0 0) H65 2 (l := t_) (m := m_) rfl rfl rfl rfl (zv _) (by kernel_rfl) [5, 53] [(5, .int .i64 1), (53, .tuple #[.int .i64 0, .bool true, .slice m_.A m_.b.length m_.c])] (by kernel_rfl) (fun w66 H67 => ?_)
     refine GL.run (j := 3) 2 [5, 53, 55] [(5, .int .i64 1), (53, .tuple #[.int .i64 0, .bool true, .slice m_.A m_.b.length m_.c]), (55, .bool true)] (by kernel_rfl) rfl ?_
     refine GL.k rfl hK64 (fun _ _ h => h) ?_
     refine G.block ?_
     refine G.yes rfl ?_
     refine G.seqK fun K68 hK69 => ?_
     refine G.region ?_
     refine GL.run (j := 2) 2 [5, 8] [(5, .int .i64 1), (8, .slice m_.A m_.b.length m_.c)] (by kernel_rfl) rfl ?_
     refine GL.k rfl hK69 (fun _ _ h => h) ?_
     refine G.seqK fun K70 hK71 => ?_
     refine G.region ?_
     refine GL.run (j := 5) 5 [2, 3, 4] [(2, .slice m_.A m_.b.length m_.c), (3, .int .i64 1), (4, .bool true)] (by kernel_rfl) rfl ?_
     refine GL.k rfl hK71 (fun _ _ h => h) ?_
     refine G.ret ?_
     intro F_ hF_ hM_
     refine hRet _ _ (bodyPost_3 rfl (RV.tmp rfl) (RV.tmp rfl) (RV.tmp rfl) ?_ F_ hF_ hM_)
     have HZ : Hp w S [.blk d [.chan (some a0.pass.ch), .chan (some (a1.took t_).ch), .chan (some a2.pass.ch), .int .i64 (a0.pass.p : Int), .int .i64 (((a1.took t_).p : Nat) : Int), .int .i64 (a2.pass.p : Int), .bool cl] 52, .obj a0.pass.ch (chO room a0.pass.l cl a0.pass.s a0.pass.r), .obj (a1.took t_).ch (chO room (a1.took t_).l cl (a1.took t_).s (a1.took t_).r), .obj a2.pass.ch (chO room a2.pass.l cl a2.pass.s a2.pass.r), .bag Gg] w66 := by rw [show a0.pass.p = a0.p by unfold Lane.pass; exact if_pos (by omega), show a2.pass.p = a2.p by unfold Lane.pass; exact if_pos (by omega)]; exact H67
     exact ⟨rfl, HZ⟩
   · skip
     have hb51f := of_decide_eq_true hb51
     refine G.yes rfl ?_
     refine G.tail 10 (by kernel_rfl) (by kernel_rfl) ?_
     have H72 := H10.drew
     generalize ({ w9 with drawn := w9.drawn + 1 } : World) = w73 at H72 ⊢
     refine GS.run (j := 5) 5 [0, 5, 18, 19, 31, 32, 35] [(0, pt d 0), (5, .int .i64 1), (18, .agg #[.chan (some a0.ch), .chan (some a1.ch), .chan (some a2.ch)]), (19, .int .i64 2), (31, pt d 0), (32, .int .i64 2), (35, pt d 5)] (by kernel_rfl) rfl rfl ?_
     refine GS.sem (j := 6) (H72.ld (o := 5) (ty := 3) (v := .int .i64 (a2.p : Int)) 0 rfl (by kernel_rfl) rfl) [0, 5, 18, 19, 31, 32, 36] [(0, pt d 0), (5, .int .i64 1), (18, .agg #[.chan (some a0.ch), .chan (some a1.ch), .chan (some a2.ch)]), (19, .int .i64 2), (31, pt d 0), (32, .int .i64 2), (36, .int .i64 (a2.p : Int))] (by kernel_rfl) (by kernel_rfl) rfl rfl ?_
     refine GS.run (j := 10) 4 [0, 5, 18, 19, 37, 40] [(0, pt d 0), (5, .int .i64 1), (18, .agg #[.chan (some a0.ch), .chan (some a1.ch), .chan (some a2.ch)]), (19, .int .i64 2), (37, .int .i64 (IntKind.i64.wrap ((a2.p : Int) + 1))), (40, pt d 5)] (by kernel_rfl) rfl rfl ?_
     have e74 : (IntKind.i64.wrap ((a2.p : Int) + 1)) = ((a2.p + 1 : Nat) : Int) := by rw [in_i64 (by omega)]; omega
     refine GS.eq (M' := [(0, pt d 0), (5, .int .i64 1), (18, .agg #[.chan (some a0.ch), .chan (some a1.ch), .chan (some a2.ch)]), (19, .int .i64 2), (37, .int .i64 ((a2.p + 1 : Nat) : Int)), (40, pt d 5)]) (by rw [e74]) ?_
     clear e74
     refine GS.tail rfl ?_
     obtain ⟨w75, r76, H77⟩ := H72.st (P := Try.prog) (o := 5) (ty := 3) (v := .int .i64 ((a2.p + 1 : Nat) : Int)) 0 rfl (by kernel_rfl) (by simp) rfl
     have H77 : Hp w S [.blk d [.chan (some a0.ch), .chan (some a1.ch), .chan (some a2.ch), .int .i64 (a0.p : Int), .int .i64 (a1.p : Int), .int .i64 ((a2.p + 1 : Nat) : Int), .bool cl] 52, .obj a0.ch (chO room a0.l cl a0.s a0.r), .obj a1.ch (chO room a1.l cl a1.s a1.r), .obj a2.ch (chO room a2.l cl a2.s a2.r), .bag Gg] w75 := H77
     refine GL.semU (j := 11) r76 [0, 5, 18, 19] [(0, pt d 0), (5, .int .i64 1), (18, .agg #[.chan (some a0.ch), .chan (some a1.ch), .chan (some a2.ch)]), (19, .int .i64 2)] (by kernel_rfl) rfl rfl rfl ?_
     refine GL.k rfl hK46 (fun _ _ h => h) ?_
     refine G.region ?_
     refine GL.run (j := 2) 2 [0, 5, 18, 19] [(0, pt d 0), (5, .int .i64 1), (18, .agg #[.chan (some a0.ch), .chan (some a1.ch), .chan (some a2.ch)]), (19, .int .i64 3)] (by kernel_rfl) rfl ?_
     refine GL.round rfl ?_
     refine G.seqK fun K78 hK79 => ?_
     refine G.region ?_
     refine GL.run (j := 1) 1 [0, 5, 18, 19, 20] [(0, pt d 0), (5, .int .i64 1), (18, .agg #[.chan (some a0.ch), .chan (some a1.ch), .chan (some a2.ch)]), (19, .int .i64 3), (20, .bool false)] (by kernel_rfl) rfl ?_
     refine GL.k rfl hK79 (fun _ _ h => h) ?_
     refine G.seqK fun K80 hK81 => ?_
     refine G.no rfl ?_
     refine G.exitKN hK17 (fun _ _ h => h) ?_
     refine GN.seqK fun K82 hK83 => ?_
     refine G.region ?_
     refine GL.run (j := 5) 5 [0, 5, 46] [(0, pt d 0), (5, .int .i64 1), (46, pt d 4)] (by kernel_rfl) rfl ?_
     obtain ⟨w84, r85, H86⟩ := H77.st (P := Try.prog) (o := 4) (ty := 3) (v := .int .i64 0) 0 rfl (by kernel_rfl) (by simp) rfl
     have H86 : Hp w S [.blk d [.chan (some a0.ch), .chan (some a1.ch), .chan (some a2.ch), .int .i64 (a0.p : Int), .int .i64 0, .int .i64 ((a2.p + 1 : Nat) : Int), .bool cl] 52, .obj a0.ch (chO room a0.l cl a0.s a0.r), .obj a1.ch (chO room a1.l cl a1.s a1.r), .obj a2.ch (chO room a2.l cl a2.s a2.r), .bag Gg] w84 := H86
     refine GL.semU (j := 6) r85 [0, 5] [(0, pt d 0), (5, .int .i64 1)] (by kernel_rfl) rfl rfl rfl ?_
     refine GL.kN rfl hK83 (fun _ _ h => h) ?_
     refine GN.seqK fun K87 hK88 => ?_
     refine G.region ?_
     refine GL.run (j := 5) 5 [5, 51] [(5, .int .i64 1), (51, pt d 1)] (by kernel_rfl) rfl ?_
     refine GL.sem (j := 6) (H86.ld (o := 1) (ty := 49) (v := .chan (some a1.ch)) 0 rfl (by kernel_rfl) rfl) [5, 52] [(5, .int .i64 1), (52, .chan (some a1.ch))] (by kernel_rfl) (by kernel_rfl) rfl ?_
     refine GL.kN rfl hK88 (fun _ _ h => h) ?_
     refine GN.seqS fun K89 hK90 => ?_
     rw [hlk] at H86
     have H91 : Hp w S [.blk d [.chan (some a0.ch), .chan (some a1.ch), .chan (some a2.ch), .int .i64 (a0.p : Int), .int .i64 0, .int .i64 ((a2.p + 1 : Nat) : Int), .bool cl] 52, .obj a0.ch (chO room a0.l cl a0.s a0.r), .obj a1.ch (chO room (m_ :: t_) cl a1.s a1.r), .obj a2.ch (chO room a2.l cl a2.s a2.r), .bag Gg] w84 := H86
     refine GN.recvBuf (z := .slice none 0 0) H91 2 (l := t_) (m := m_) rfl rfl rfl rfl (zv _) (by kernel_rfl) [5, 53] [(5, .int .i64 1), (53, .tuple #[.int .i64 0, .bool true, .slice m_.A m_.b.length m_.c])] (by kernel_rfl) (fun w92 H93 => ?_)
     refine GL.run (j := 3) 2 [5, 53, 55] [(5, .int .i64 1), (53, .tuple #[.int .i64 0, .bool true, .slice m_.A m_.b.length m_.c]), (55, .bool true)] (by kernel_rfl) rfl ?_
     refine GL.k rfl hK90 (fun _ _ h => h) ?_
     refine G.block ?_
     refine G.yes rfl ?_
     refine G.seqK fun K94 hK95 => ?_
     refine G.region ?_
     refine GL.run (j := 2) 2 [5, 8] [(5, .int .i64 1), (8, .slice m_.A m_.b.length m_.c)] (by kernel_rfl) rfl ?_
     refine GL.k rfl hK95 (fun _ _ h => h) ?_
     refine G.seqK fun K96 hK97 => ?_
     refine G.region ?_
     refine GL.run (j := 5) 5 [2, 3, 4] [(2, .slice m_.A m_.b.length m_.c), (3, .int .i64 1), (4, .bool true)] (by kernel_rfl) rfl ?_
     refine GL.k rfl hK97 (fun _ _ h => h) ?_
     refine G.ret ?_
     intro F_ hF_ hM_
     refine hRet _ _ (bodyPost_3 rfl (RV.tmp rfl) (RV.tmp rfl) (RV.tmp rfl) ?_ F_ hF_ hM_)
     have HZ : Hp w S [.blk d [.chan (some a0.pass.ch), .chan (some (a1.took t_).ch), .chan (some a2.pass.ch), .int .i64 (a0.pass.p : Int), .int .i64 (((a1.took t_).p : Nat) : Int), .int .i64 (a2.pass.p : Int), .bool cl] 52, .obj a0.pass.ch (chO room a0.pass.l cl a0.pass.s a0.pass.r), .obj (a1.took t_).ch (chO room (a1.took t_).l cl (a1.took t_).s (a1.took t_).r), .obj a2.pass.ch (chO room a2.pass.l cl a2.pass.s a2.pass.r), .bag Gg] w92 := by rw [show a0.pass.p = a0.p by unfold Lane.pass; exact if_pos (by omega), show a2.pass.p = a2.p + 1 by unfold Lane.pass; exact if_neg (by omega)]; exact H93
     exact ⟨rfl, HZ⟩
 · skip
   have hb30f := of_decide_eq_true hb30
   refine G.yes rfl ?_
   refine G.tail 10 (by kernel_rfl) (by kernel_rfl) ?_
   have H98 := H10.drew
   generalize ({ w9 with drawn := w9.drawn + 1 } : World) = w99 at H98 ⊢
   refine GS.run (j := 5) 5 [0, 5, 18, 19, 31, 32, 35] [(0, pt d 0), (5, .int .i64 1), (18, .agg #[.chan (some a0.ch), .chan (some a1.ch), .chan (some a2.ch)]), (19, .int .i64 0), (31, pt d 0), (32, .int .i64 0), (35, pt d 3)] (by kernel_rfl) rfl rfl ?_
   refine GS.sem (j := 6) (H98.ld (o := 3) (ty := 3) (v := .int .i64 (a0.p : Int)) 0 rfl (by kernel_rfl) rfl) [0, 5, 18, 19, 31, 32, 36] [(0, pt d 0), (5, .int .i64 1), (18, .agg #[.chan (some a0.ch), .chan (some a1.ch), .chan (some a2.ch)]), (19, .int .i64 0), (31, pt d 0), (32, .int .i64 0), (36, .int .i64 (a0.p : Int))] (by kernel_rfl) (by kernel_rfl) rfl rfl ?_
   refine GS.run (j := 10) 4 [0, 5, 18, 19, 37, 40] [(0, pt d 0), (5, .int .i64 1), (18, .agg #[.chan (some a0.ch), .chan (some a1.ch), .chan (some a2.ch)]), (19, .int .i64 0), (37, .int .i64 (IntKind.i64.wrap ((a0.p : Int) + 1))), (40, pt d 3)] (by kernel_rfl) rfl rfl ?_
   have e100 : (IntKind.i64.wrap ((a0.p : Int) + 1)) = ((a0.p + 1 : Nat) : Int) := by rw [in_i64 (by omega)]; omega
   refine GS.eq (M' := [(0, pt d 0), (5, .int .i64 1), (18, .agg #[.chan (some a0.ch), .chan (some a1.ch), .chan (some a2.ch)]), (19, .int .i64 0), (37, .int .i64 ((a0.p + 1 : Nat) : Int)), (40, pt d 3)]) (by rw [e100]) ?_
   clear e100
   refine GS.tail rfl ?_
   obtain ⟨w101, r102, H103⟩ := H98.st (P := Try.prog) (o := 3) (ty := 3) (v := .int .i64 ((a0.p + 1 : Nat) : Int)) 0 rfl (by kernel_rfl) (by simp) rfl
   have H103 : Hp w S [.blk d [.chan (some a0.ch), .chan (some a1.ch), .chan (some a2.ch), .int .i64 ((a0.p + 1 : Nat) : Int), .int .i64 (a1.p : Int), .int .i64 (a2.p : Int), .bool cl] 52, .obj a0.ch (chO room a0.l cl a0.s a0.r), .obj a1.ch (chO room a1.l cl a1.s a1.r), .obj a2.ch (chO room a2.l cl a2.s a2.r), .bag Gg] w101 := H103
   refine GL.semU (j := 11) r102 [0, 5, 18, 19] [(0, pt d 0), (5, .int .i64 1), (18, .agg #[.chan (some a0.ch), .chan (some a1.ch), .chan (some a2.ch)]), (19, .int .i64 0)] (by kernel_rfl) rfl rfl rfl ?_
   refine GL.k rfl hK25 (fun _ _ h => h) ?_
   refine G.region ?_
   refine GL.run (j := 2) 2 [0, 5, 18, 19] [(0, pt d 0), (5, .int .i64 1), (18, .agg #[.chan (some a0.ch), .chan (some a1.ch), .chan (some a2.ch)]), (19, .int .i64 1)] (by kernel_rfl) rfl ?_
   refine GL.round rfl ?_
   refine G.seqK fun K104 hK105 => ?_
   refine G.region ?_
   refine GL.run (j := 1) 1 [0, 5, 18, 19, 20] [(0, pt d 0), (5, .int .i64 1), (18, .agg #[.chan (some a0.ch), .chan (some a1.ch), .chan (some a2.ch)]), (19, .int .i64 1), (20, .bool true)] (by kernel_rfl) rfl ?_
   refine GL.k rfl hK105 (fun _ _ h => h) ?_
   refine G.seqK fun K106 hK107 => ?_
   refine G.yes rfl ?_
   refine G.skipK hK107 (fun _ _ h => h) ?_
   refine G.seqK fun K108 hK109 => ?_
   refine G.block ?_
   refine G.seqK fun K110 hK111 => ?_
   refine G.region ?_
   refine GL.run (j := 4) 4 [0, 5, 6, 7, 18, 19] [(0, pt d 0), (5, .int .i64 1), (6, .int .i64 1), (7, .chan (some a1.ch)), (18, .agg #[.chan (some a0.ch), .chan (some a1.ch), .chan (some a2.ch)]), (19, .int .i64 1)] (by kernel_rfl) rfl ?_
   refine GL.k rfl hK111 (fun _ _ h => h) ?_
   refine G.seqK fun K112 hK113 => ?_
   refine G.region ?_
   refine GL.run (j := 8) 8 [0, 5, 6, 18, 19, 30] [(0, pt d 0), (5, .int .i64 1), (6, .int .i64 1), (18, .agg #[.chan (some a0.ch), .chan (some a1.ch), .chan (some a2.ch)]), (19, .int .i64 1), (30, .bool false)] (by kernel_rfl) rfl ?_
   refine GL.k rfl hK113 (fun _ _ h => h) ?_
   refine G.no rfl ?_
   refine G.skipK hK109 (fun _ _ h => h) ?_
   refine G.region ?_
   refine GL.run (j := 2) 2 [0, 5, 18, 19] [(0, pt d 0), (5, .int .i64 1), (18, .agg #[.chan (some a0.ch), .chan (some a1.ch), .chan (some a2.ch)]), (19, .int .i64 2)] (by kernel_rfl) rfl ?_
   refine GL.round rfl ?_
   refine G.seqK fun K114 hK115 => ?_
   refine G.region ?_
   refine GL.run (j := 1) 1 [0, 5, 18, 19, 20] [(0, pt d 0), (5, .int .i64 1), (18, .agg #[.chan (some a0.ch), .chan (some a1.ch), .chan (some a2.ch)]), (19, .int .i64 2), (20, .bool true)] (by kernel_rfl) rfl ?_
   refine GL.k rfl hK115 (fun _ _ h => h) ?_
   refine G.seqK fun K116 hK117 => ?_
   refine G.yes rfl ?_
   refine G.skipK hK117 (fun _ _ h => h) ?_
   refine G.seqK fun K118 hK119 => ?_
   refine G.block ?_
   refine G.seqK fun K120 hK121 => ?_
   refine G.region ?_
   refine GL.run (j := 4) 4 [0, 5, 6, 7, 18, 19] [(0, pt d 0), (5, .int .i64 1), (6, .int .i64 2), (7, .chan (some a2.ch)), (18, .agg #[.chan (some a0.ch), .chan (some a1.ch), .chan (some a2.ch)]), (19, .int .i64 2)] (by kernel_rfl) rfl ?_
   refine GL.k rfl hK121 (fun _ _ h => h) ?_
   refine G.seqK fun K122 hK123 => ?_
   refine G.region ?_
   refine GL.run (j := 5) 5 [0, 5, 6, 18, 19, 26, 27] [(0, pt d 0), (5, .int .i64 1), (6, .int .i64 2), (18, .agg #[.chan (some a0.ch), .chan (some a1.ch), .chan (some a2.ch)]), (19, .int .i64 2), (26, .bool true), (27, .chan (some a2.ch))] (by kernel_rfl) rfl ?_
   refine GL.sem (j := 6) (H103.lenChan (P := Try.prog) (t := 49) (ty := 3) (l := a2.l) 3 rfl Try.underlying49) [0, 5, 6, 18, 19, 26, 28] [(0, pt d 0), (5, .int .i64 1), (6, .int .i64 2), (18, .agg #[.chan (some a0.ch), .chan (some a1.ch), .chan (some a2.ch)]), (19, .int .i64 2), (26, .bool true), (28, .int .i64 (a2.l.length : Int))] (by kernel_rfl) (by kernel_rfl) rfl ?_
   refine GL.run (j := 8) 2 [0, 5, 6, 18, 19, 30] [(0, pt d 0), (5, .int .i64 1), (6, .int .i64 2), (18, .agg #[.chan (some a0.ch), .chan (some a1.ch), .chan (some a2.ch)]), (19, .int .i64 2), (30, .bool (decide (0 < (a2.l.length : Int))))] (by kernel_rfl) rfl ?_
   refine GL.k rfl hK123 (fun _ _ h => h) ?_
   cases hb124 : (decide (0 < (a2.l.length : Int)))
   · skip
     have hb124f := of_decide_eq_false hb124
     refine G.no rfl ?_
     refine G.skipK hK119 (fun _ _ h => h) ?_
     refine G.region ?_
     refine GL.run (j := 2) 2 [0, 5, 18, 19] [(0, pt d 0), (5, .int .i64 1), (18, .agg #[.chan (some a0.ch), .chan (some a1.ch), .chan (some a2.ch)]), (19, .int .i64 3)] (by kernel_rfl) rfl ?_
     refine GL.round rfl ?_
     refine G.seqK fun K125 hK126 => ?_
     refine G.region ?_
     refine GL.run (j := 1) 1 [0, 5, 18, 19, 20] [(0, pt d 0), (5, .int .i64 1), (18, .agg #[.chan (some a0.ch), .chan (some a1.ch), .chan (some a2.ch)]), (19, .int .i64 3), (20, .bool false)] (by kernel_rfl) rfl ?_
     refine GL.k rfl hK126 (fun _ _ h => h) ?_
     refine G.seqK fun K127 hK128 => ?_
     refine G.no rfl ?_
     refine G.exitKN hK17 (fun _ _ h => h) ?_
     refine GN.seqK fun K129 hK130 => ?_
     refine G.region ?_
     refine GL.run (j := 5) 5 [0, 5, 46] [(0, pt d 0), (5, .int .i64 1), (46, pt d 4)] (by kernel_rfl) rfl ?_
     obtain ⟨w131, r132, H133⟩ := H103.st (P := Try.prog) (o := 4) (ty := 3) (v := .int .i64 0) 0 rfl (by kernel_rfl) (by simp) rfl
     have H133 : Hp w S [.blk d [.chan (some a0.ch), .chan (some a1.ch), .chan (some a2.ch), .int .i64 ((a0.p + 1 : Nat) : Int), .int .i64 0, .int .i64 (a2.p : Int), .bool cl] 52, .obj a0.ch (chO room a0.l cl a0.s a0.r), .obj a1.ch (chO room a1.l cl a1.s a1.r), .obj a2.ch (chO room a2.l cl a2.s a2.r), .bag Gg] w131 := H133
     refine GL.semU (j := 6) r132 [0, 5] [(0, pt d 0), (5, .int .i64 1)] (by kernel_rfl) rfl rfl rfl ?_
     refine GL.kN rfl hK130 (fun _ _ h => h) ?_
     refine GN.seqK fun K134 hK135 => ?_
     refine G.region ?_
     refine GL.run (j := 5) 5 [5, 51] [(5, .int .i64 1), (51, pt d 1)] (by kernel_rfl) rfl ?_
     refine GL.sem (j := 6) (H133.ld (o := 1) (ty := 49) (v := .chan (some a1.ch)) 0 rfl (by kernel_rfl) rfl) [5, 52] [(5, .int .i64 1), (52, .chan (some a1.ch))] (by kernel_rfl) (by kernel_rfl) rfl ?_
     refine GL.kN rfl hK135 (fun _ _ h => h) ?_
     refine GN.seqS fun K136 hK137 => ?_
     rw [hlk] at H133
     have H138 : Hp w S [.blk d [.chan (some a0.ch), .chan (some a1.ch), .chan (some a2.ch), .int .i64 ((a0.p + 1 : Nat) : Int), .int .i64 0, .int .i64 (a2.p : Int), .bool cl] 52, .obj a0.ch (chO room a0.l cl a0.s a0.r), .obj a1.ch (chO room (m_ :: t_) cl a1.s a1.r), .obj a2.ch (chO room a2.l cl a2.s a2.r), .bag Gg] w131 := H133
     refine GN.recvBuf (z := .slice none 0 0) H138 2 (l := t_) (m := m_) rfl rfl rfl rfl (zv _) (by kernel_rfl) [5, 53] [(5, .int .i64 1), (53, .tuple #[.int .i64 0, .bool true, .slice m_.A m_.b.length m_.c])] (by kernel_rfl) (fun w139 H140 => ?_)
     refine GL.run (j := 3) 2 [5, 53, 55] [(5, .int .i64 1), (53, .tuple #[.int .i64 0, .bool true, .slice m_.A m_.b.length m_.c]), (55, .bool true)] (by kernel_rfl) rfl ?_
     refine GL.k rfl hK137 (fun _ _ h => h) ?_
     refine G.block ?_
     refine G.yes rfl ?_
     refine G.seqK fun K141 hK142 => ?_
     refine G.region ?_
     refine GL.run (j := 2) 2 [5, 8] [(5, .int .i64 1), (8, .slice m_.A m_.b.length m_.c)] (by kernel_rfl) rfl ?_
     refine GL.k rfl hK142 (fun _ _ h => h) ?_
     refine G.seqK fun K143 hK144 => ?_
     refine G.region ?_
     refine GL.run (j := 5) 5 [2, 3, 4] [(2, .slice m_.A m_.b.length m_.c), (3, .int .i64 1), (4, .bool true)] (by kernel_rfl) rfl ?_
     refine GL.k rfl hK144 (fun _ _ h => h) ?_
     refine G.ret ?_
     intro F_ hF_ hM_
     refine hRet _ _ (bodyPost_3 rfl (RV.tmp rfl) (RV.tmp rfl) (RV.tmp rfl) ?_ F_ hF_ hM_)
     have HZ : Hp w S [.blk d [.chan (some a0.pass.ch), .chan (some (a1.took t_).ch), .chan (some a2.pass.ch), .int .i64 (a0.pass.p : Int), .int .i64 (((a1.took t_).p : Nat) : Int), .int .i64 (a2.pass.p : Int), .bool cl] 52, .obj a0.pass.ch (chO room a0.pass.l cl a0.pass.s a0.pass.r), .obj (a1.took t_).ch (chO room (a1.took t_).l cl (a1.took t_).s (a1.took t_).r), .obj a2.pass.ch (chO room a2.pass.l cl a2.pass.s a2.pass.r), .bag Gg] w139 := by rw [show a0.pass.p = a0.p + 1 by unfold Lane.pass; exact if_neg (by omega), show a2.pass.p = a2.p by unfold Lane.pass; exact if_pos (by omega)]; exact H140
     exact ⟨rfl, HZ⟩
   · skip
     have hb124f := of_decide_eq_true hb124
     refine G.yes rfl ?_
     refine G.tail 10 (by kernel_rfl) (by kernel_rfl) ?_
     have H145 := H103.drew
     generalize ({ w101 with drawn := w101.drawn + 1 } : World) = w146 at H145 ⊢
     refine GS.run (j := 5) 5 [0, 5, 18, 19, 31, 32, 35] [(0, pt d 0), (5, .int .i64 1), (18, .agg #[.chan (some a0.ch), .chan (some a1.ch), .chan (some a2.ch)]), (19, .int .i64 2), (31, pt d 0), (32, .int .i64 2), (35, pt d 5)] (by kernel_rfl) rfl rfl ?_
     refine GS.sem (j := 6) (H145.ld (o := 5) (ty := 3) (v := .int .i64 (a2.p : Int)) 0 rfl (by kernel_rfl) rfl) [0, 5, 18, 19, 31, 32, 36] [(0, pt d 0), (5, .int .i64 1), (18, .agg #[.chan (some a0.ch), .chan (some a1.ch), .chan (some a2.ch)]), (19, .int .i64 2), (31, pt d 0), (32, .int .i64 2), (36, .int .i64 (a2.p : Int))] (by kernel_rfl) (by kernel_rfl) rfl rfl ?_
     refine GS.run (j := 10) 4 [0, 5, 18, 19, 37, 40] [(0, pt d 0), (5, .int .i64 1), (18, .agg #[.chan (some a0.ch), .chan (some a1.ch), .chan (some a2.ch)]), (19, .int .i64 2), (37, .int .i64 (IntKind.i64.wrap ((a2.p : Int) + 1))), (40, pt d 5)] (by kernel_rfl) rfl rfl ?_
     have e147 : (IntKind.i64.wrap ((a2.p : Int) + 1)) = ((a2.p + 1 : Nat) : Int) := by rw [in_i64 (by omega)]; omega
     refine GS.eq (M' := [(0, pt d 0), (5, .int .i64 1), (18, .agg #[.chan (some a0.ch), .chan (some a1.ch), .chan (some a2.ch)]), (19, .int .i64 2), (37, .int .i64 ((a2.p + 1 : Nat) : Int)), (40, pt d 5)]) (by rw [e147]) ?_
     clear e147
     refine GS.tail rfl ?_
     obtain ⟨w148, r149, H150⟩ := H145.st (P := Try.prog) (o := 5) (ty := 3) (v := .int .i64 ((a2.p + 1 : Nat) : Int)) 0 rfl (by kernel_rfl) (by simp) rfl
     have H150 : Hp w S [.blk d [.chan (some a0.ch), .chan (some a1.ch), .chan (some a2.ch), .int .i64 ((a0.p + 1 : Nat) : Int), .int .i64 (a1.p : Int), .int .i64 ((a2.p + 1 : Nat) : Int), .bool cl] 52, .obj a0.ch (chO room a0.l cl a0.s a0.r), .obj a1.ch (chO room a1.l cl a1.s a1.r), .obj a2.ch (chO room a2.l cl a2.s a2.r), .bag Gg] w148 := H150
     refine GL.semU (j := 11) r149 [0, 5, 18, 19] [(0, pt d 0), (5, .int .i64 1), (18, .agg #[.chan (some a0.ch), .chan (some a1.ch), .chan (some a2.ch)]), (19, .int .i64 2)] (by kernel_rfl) rfl rfl rfl ?_
     refine GL.k rfl hK119 (fun _ _ h => h) ?_
     refine G.region ?_
     refine GL.run (j := 2) 2 [0, 5, 18, 19] [(0, pt d 0), (5, .int .i64 1), (18, .agg #[.chan (some a0.ch), .chan (some a1.ch), .chan (some a2.ch)]), (19, .int .i64 3)] (by kernel_rfl) rfl ?_
     refine GL.round rfl ?_
     refine G.seqK fun K151 hK152 => ?_
     refine G.region ?_
     refine GL.run (j := 1) 1 [0, 5, 18, 19, 20] [(0, pt d 0), (5, .int .i64 1), (18, .agg #[.chan (some a0.ch), .chan (some a1.ch), .chan (some a2.ch)]), (19, .int .i64 3), (20, .bool false)] (by kernel_rfl) rfl ?_
     refine GL.k rfl hK152 (fun _ _ h => h) ?_
     refine G.seqK fun K153 hK154 => ?_
     refine G.no rfl ?_
     refine G.exitKN hK17 (fun _ _ h => h) ?_
     refine GN.seqK fun K155 hK156 => ?_
     refine G.region ?_
     refine GL.run (j := 5) 5 [0, 5, 46] [(0, pt d 0), (5, .int .i64 1), (46, pt d 4)] (by kernel_rfl) rfl ?_
     obtain ⟨w157, r158, H159⟩ := H150.st (P := Try.prog) (o := 4) (ty := 3) (v := .int .i64 0) 0 rfl (by kernel_rfl) (by simp) rfl
     have H159 : Hp w S [.blk d [.chan (some a0.ch), .chan (some a1.ch), .chan (some a2.ch), .int .i64 ((a0.p + 1 : Nat) : Int), .int .i64 0, .int .i64 ((a2.p + 1 : Nat) : Int), .bool cl] 52, .obj a0.ch (chO room a0.l cl a0.s a0.r), .obj a1.ch (chO room a1.l cl a1.s a1.r), .obj a2.ch (chO room a2.l cl a2.s a2.r), .bag Gg] w157 := H159
     refine GL.semU (j := 6) r158 [0, 5] [(0, pt d 0), (5, .int .i64 1)] (by kernel_rfl) rfl rfl rfl ?_
     refine GL.kN rfl hK156 (fun _ _ h => h) ?_
     refine GN.seqK fun K160 hK161 => ?_
     refine G.region ?_
     refine GL.run (j := 5) 5 [5, 51] [(5, .int .i64 1), (51, pt d 1)] (by kernel_rfl) rfl ?_
     refine GL.sem (j := 6) (H159.ld (o := 1) (ty := 49) (v := .chan (some a1.ch)) 0 rfl (by kernel_rfl) rfl) [5, 52] [(5, .int .i64 1), (52, .chan (some a1.ch))] (by kernel_rfl) (by kernel_rfl) rfl ?_
     refine GL.kN rfl hK161 (fun _ _ h => h) ?_
     refine GN.seqS fun K162 hK163 => ?_
     rw [hlk] at H159
     have H164 : Hp w S [.blk d [.chan (some a0.ch), .chan (some a1.ch), .chan (some a2.ch), .int .i64 ((a0.p + 1 : Nat) : Int), .int .i64 0, .int .i64 ((a2.p + 1 : Nat) : Int), .bool cl] 52, .obj a0.ch (chO room a0.l cl a0.s a0.r), .obj a1.ch (chO room (m_ :: t_) cl a1.s a1.r), .obj a2.ch (chO room a2.l cl a2.s a2.r), .bag Gg] w157 := H159
     refine GN.recvBuf (z := .slice none 0 0) H164 2 (l := t_) (m := m_) rfl rfl rfl rfl (zv _) (by kernel_rfl) [5, 53] [(5, .int .i64 1), (53, .tuple #[.int .i64 0, .bool true, .slice m_.A m_.b.length m_.c])] (by kernel_rfl) (fun w165 H166 => ?_)
     refine GL.run (j := 3) 2 [5, 53, 55] [(5, .int .i64 1), (53, .tuple #[.int .i64 0, .bool true, .slice m_.A m_.b.length m_.c]), (55, .bool true)] (by kernel_rfl) rfl ?_
     refine GL.k rfl hK163 (fun _ _ h => h) ?_
     refine G.block ?_
     refine G.yes rfl ?_
     refine G.seqK fun K167 hK168 => ?_
     refine G.region ?_
     refine GL.run (j := 2) 2 [5, 8] [(5, .int .i64 1), (8, .slice m_.A m_.b.length m_.c)] (by kernel_rfl) rfl ?_
     refine GL.k rfl hK168 (fun _ _ h => h) ?_
     refine G.seqK fun K169 hK170 => ?_
     refine G.region ?_
     refine GL.run (j := 5) 5 [2, 3, 4] [(2, .slice m_.A m_.b.length m_.c), (3, .int .i64 1), (4, .bool true)] (by kernel_rfl) rfl ?_
     refine GL.k rfl hK170 (fun _ _ h => h) ?_
     refine G.ret ?_
     intro F_ hF_ hM_
     refine hRet _ _ (bodyPost_3 rfl (RV.tmp rfl) (RV.tmp rfl) (RV.tmp rfl) ?_ F_ hF_ hM_)
     have HZ : Hp w S [.blk d [.chan (some a0.pass.ch), .chan (some (a1.took t_).ch), .chan (some a2.pass.ch), .int .i64 (a0.pass.p : Int), .int .i64 (((a1.took t_).p : Nat) : Int), .int .i64 (a2.pass.p : Int), .bool cl] 52, .obj a0.pass.ch (chO room a0.pass.l cl a0.pass.s a0.pass.r), .obj (a1.took t_).ch (chO room (a1.took t_).l cl (a1.took t_).s (a1.took t_).r), .obj a2.pass.ch (chO room a2.pass.l cl a2.pass.s a2.pass.r), .bag Gg] w165 := by rw [show a0.pass.p = a0.p + 1 by unfold Lane.pass; exact if_neg (by omega), show a2.pass.p = a2.p + 1 by unfold Lane.pass; exact if_neg (by omega)]; exact H166
     exact ⟨rfl, HZ⟩
set_option maxHeartbeats 4000000 in
theorem Take2_calls (S : List Nat) (d room : Nat) (cl : Bool) (a0 a1 a2 : Lane) (Gg : List (Option Addr × Nat × Nat × TypeId × List Value)) (m_ : Msg) (t_ : List Msg) (w : World) (h0 : Hp w S [.blk d [.chan (some a0.ch), .chan (some a1.ch), .chan (some a2.ch), .int .i64 (a0.p : Int), .int .i64 (a1.p : Int), .int .i64 (a2.p : Int), .bool cl] 52, .obj a0.ch (chO room a0.l cl a0.s a0.r), .obj a1.ch (chO room a1.l cl a1.s a1.r), .obj a2.ch (chO room a2.l cl a2.s a2.r), .bag Gg] w) (hz0 : a0.z) (hz1 : a1.z) (hz2 : a2.z) (htk : tkN a0 a1 a2 = 2) (hlk : a2.l = m_ :: t_) : Calls Try.prog 9 #[pt d 0] w fun e w' => e = .returned (.tuple #[.slice m_.A m_.b.length m_.c, .int .i64 2, .bool true]) ∧ Hp w S [.blk d [.chan (some a0.pass.ch), .chan (some a1.pass.ch), .chan (some (a2.took t_).ch), .int .i64 (a0.pass.p : Int), .int .i64 (a1.pass.p : Int), .int .i64 (((a2.took t_).p : Nat) : Int), .bool cl] 52, .obj a0.pass.ch (chO room a0.pass.l cl a0.pass.s a0.pass.r), .obj a1.pass.ch (chO room a1.pass.l cl a1.pass.s a1.pass.r), .obj (a2.took t_).ch (chO room (a2.took t_).l cl (a2.took t_).s (a2.took t_).r), .bag Gg] w' := by
 have hzp0 := hz0.2
 have hzp1 := hz1.2
 have hzp2 := hz2.2
 refine calls_GN (args := [pt d 0]) Try.func9 rfl Try.ntmps9 rfl ?_
 intro Q0 hRet hNor hPan
 have H := h0
 have H : Hp w S [.blk d [.chan (some a0.ch), .chan (some a1.ch), .chan (some a2.ch), .int .i64 (a0.p : Int), .int .i64 (a1.p : Int), .int .i64 (a2.p : Int), .bool cl] 52, .obj a0.ch (chO room a0.l cl a0.s a0.r), .obj a1.ch (chO room a1.l cl a1.s a1.r), .obj a2.ch (chO room a2.l cl a2.s a2.r), .bag Gg] w := H
 refine GN.seqK fun K1 hK2 => ?_
 refine G.region ?_
 refine GL.run (j := 3) 3 [0] [(0, pt d 0)] (by kernel_rfl) rfl ?_
 refine GL.kN rfl hK2 (fun _ _ h => h) ?_
 refine GN.seqK fun K3 hK4 => ?_
 refine G.seqK fun K5 hK6 => ?_
 refine G.region ?_
 refine GL.run (j := 2) 2 [0, 10] [(0, pt d 0), (10, .bool false)] (by kernel_rfl) rfl ?_
 refine GL.k rfl hK6 (fun _ _ h => h) ?_
 refine G.no rfl ?_
 refine G.skipKN hK4 (fun _ _ h => h) ?_
 refine GN.seqK fun K7 hK8 => ?_
 refine G.region ?_
 refine GL.run (j := 1) 1 [0, 11] [(0, pt d 0), (11, pt d 0)] (by kernel_rfl) rfl ?_
 refine GL.call (j := 2) ((by have h_ := next_calls (ids [.blk d [.chan (some a0.ch), .chan (some a1.ch), .chan (some a2.ch), .int .i64 (a0.p : Int), .int .i64 (a1.p : Int), .int .i64 (a2.p : Int), .bool cl] 52, .obj a0.ch (chO room a0.l cl a0.s a0.r), .obj a1.ch (chO room a1.l cl a1.s a1.r), .obj a2.ch (chO room a2.l cl a2.s a2.r), .bag Gg]) d room cl a0 a1 a2 Gg w (Hp.startL (A := [.blk d [.chan (some a0.ch), .chan (some a1.ch), .chan (some a2.ch), .int .i64 (a0.p : Int), .int .i64 (a1.p : Int), .int .i64 (a2.p : Int), .bool cl] 52, .obj a0.ch (chO room a0.l cl a0.s a0.r), .obj a1.ch (chO room a1.l cl a1.s a1.r), .obj a2.ch (chO room a2.l cl a2.s a2.r), .bag Gg]) (B := []) H) hz0 hz1 hz2; rw [show tkI a0 a1 a2 = 2 by unfold tkI; rw [htk]; rfl] at h_; exact h_)) (by kernel_rfl) rfl (fun e_ w9 hR => ?_)
 obtain ⟨rfl, H11⟩ := hR
 have H10 : Hp w S [.blk d [.chan (some a0.ch), .chan (some a1.ch), .chan (some a2.ch), .int .i64 (a0.p : Int), .int .i64 (a1.p : Int), .int .i64 (a2.p : Int), .bool cl] 52, .obj a0.ch (chO room a0.l cl a0.s a0.r), .obj a1.ch (chO room a1.l cl a1.s a1.r), .obj a2.ch (chO room a2.l cl a2.s a2.r), .bag Gg] w9 := Hp.callL (A := [.blk d [.chan (some a0.ch), .chan (some a1.ch), .chan (some a2.ch), .int .i64 (a0.p : Int), .int .i64 (a1.p : Int), .int .i64 (a2.p : Int), .bool cl] 52, .obj a0.ch (chO room a0.l cl a0.s a0.r), .obj a1.ch (chO room a1.l cl a1.s a1.r), .obj a2.ch (chO room a2.l cl a2.s a2.r), .bag Gg]) (B := []) H H11
 refine ⟨_, rfl, [0, 12], [(0, pt d 0), (12, .int .i64 2)], by kernel_rfl, ?_⟩
 refine GL.run (j := 3) 1 [0, 5] [(0, pt d 0), (5, .int .i64 2)] (by kernel_rfl) rfl ?_
 refine GL.kN rfl hK8 (fun _ _ h => h) ?_
 refine GN.seqK fun K12 hK13 => ?_
 refine G.seqK fun K14 hK15 => ?_
 refine G.region ?_
 refine GL.run (j := 2) 2 [0, 5, 14] [(0, pt d 0), (5, .int .i64 2), (14, .bool false)] (by kernel_rfl) rfl ?_
 refine GL.k rfl hK15 (fun _ _ h => h) ?_
 refine G.no rfl ?_
 refine G.skipKN hK13 (fun _ _ h => h) ?_
 refine GN.seqK fun K16 hK17 => ?_
 refine G.seqK fun K18 hK19 => ?_
 refine G.region ?_
 refine GL.run (j := 3) 3 [0, 5, 17] [(0, pt d 0), (5, .int .i64 2), (17, pt d 0)] (by kernel_rfl) rfl ?_
 refine GL.sem (j := 4) (H10.ldA (o := 0) (ty := 50) (m := 3) (sub := [.chan (some a0.ch), .chan (some a1.ch), .chan (some a2.ch)]) 0 rfl (by kernel_rfl) rfl rfl) [0, 5, 18] [(0, pt d 0), (5, .int .i64 2), (18, .agg #[.chan (some a0.ch), .chan (some a1.ch), .chan (some a2.ch)])] (by kernel_rfl) (by kernel_rfl) rfl ?_
 refine GL.run (j := 5) 1 [0, 5, 18, 19] [(0, pt d 0), (5, .int .i64 2), (18, .agg #[.chan (some a0.ch), .chan (some a1.ch), .chan (some a2.ch)]), (19, .int .i64 0)] (by kernel_rfl) rfl ?_
 refine GL.k rfl hK19 (fun _ _ h => h) ?_
 refine G.block ?_
 refine G.unroll 3 ?_
 refine G.seqK fun K20 hK21 => ?_
 refine G.region ?_
 refine GL.run (j := 1) 1 [0, 5, 18, 19, 20] [(0, pt d 0), (5, .int .i64 2), (18, .agg #[.chan (some a0.ch), .chan (some a1.ch), .chan (some a2.ch)]), (19, .int .i64 0), (20, .bool true)] (by kernel_rfl) rfl ?_
 refine GL.k rfl hK21 (fun _ _ h => h) ?_
 refine G.seqK fun K22 hK23 => ?_
 refine G.yes rfl ?_
 refine G.skipK hK23 (fun _ _ h => h) ?_
 refine G.seqK fun K24 hK25 => ?_
 refine G.block ?_
 refine G.seqK fun K26 hK27 => ?_
 refine G.region ?_
 refine GL.run (j := 4) 4 [0, 5, 6, 7, 18, 19] [(0, pt d 0), (5, .int .i64 2), (6, .int .i64 0), (7, .chan (some a0.ch)), (18, .agg #[.chan (some a0.ch), .chan (some a1.ch), .chan (some a2.ch)]), (19, .int .i64 0)] (by kernel_rfl) rfl ?_
 refine GL.k rfl hK27 (fun _ _ h => h) ?_
 refine G.seqK fun K28 hK29 => ?_
 refine G.region ?_
 refine GL.run (j := 5) 5 [0, 5, 6, 18, 19, 26, 27] [(0, pt d 0), (5, .int .i64 2), (6, .int .i64 0), (18, .agg #[.chan (some a0.ch), .chan (some a1.ch), .chan (some a2.ch)]), (19, .int .i64 0), (26, .bool true), (27, .chan (some a0.ch))] (by kernel_rfl) rfl ?_
 refine GL.sem (j := 6) (H10.lenChan (P := Try.prog) (t := 49) (ty := 3) (l := a0.l) 1 rfl Try.underlying49) [0, 5, 6, 18, 19, 26, 28] [(0, pt d 0), (5, .int .i64 2), (6, .int .i64 0), (18, .agg #[.chan (some a0.ch), .chan (some a1.ch), .chan (some a2.ch)]), (19, .int .i64 0), (26, .bool true), (28, .int .i64 (a0.l.length : Int))] (by kernel_rfl) (by kernel_rfl) rfl ?_
 refine GL.run (j := 8) 2 [0, 5, 6, 18, 19, 30] [(0, pt d 0), (5, .int .i64 2), (6, .int .i64 0), (18, .agg #[.chan (some a0.ch), .chan (some a1.ch), .chan (some a2.ch)]), (19, .int .i64 0), (30, .bool (decide (0 < (a0.l.length : Int))))] (by kernel_rfl) rfl ?_
 refine GL.k rfl hK29 (fun _ _ h => h) ?_
 cases hb30 : (decide (0 < (a0.l.length : Int)))
 · skip
   have hb30f := of_decide_eq_false hb30
   refine G.no rfl ?_
   refine G.skipK hK25 (fun _ _ h => h) ?_
   refine G.region ?_
   refine GL.run (j := 2) 2 [0, 5, 18, 19] [(0, pt d 0), (5, .int .i64 2), (18, .agg #[.chan (some a0.ch), .chan (some a1.ch), .chan (some a2.ch)]), (19, .int .i64 1)] (by kernel_rfl) rfl ?_
   refine GL.round rfl ?_
   refine G.seqK fun K31 hK32 => ?_
   refine G.region ?_
   refine GL.run (j := 1) 1 [0, 5, 18, 19, 20] [(0, pt d 0), (5, .int .i64 2), (18, .agg #[.chan (some a0.ch), .chan (some a1.ch), .chan (some a2.ch)]), (19, .int .i64 1), (20, .bool true)] (by kernel_rfl) rfl ?_
   refine GL.k rfl hK32 (fun _ _ h => h) ?_
   refine G.seqK fun K33 hK34 => ?_
   refine G.yes rfl ?_
   refine G.skipK hK34 (fun _ _ h => h) ?_
   refine G.seqK fun K35 hK36 => ?_
   refine G.block ?_
   refine G.seqK fun K37 hK38 => ?_
   refine G.region ?_
   refine GL.run (j := 4) 4 [0, 5, 6, 7, 18, 19] [(0, pt d 0), (5, .int .i64 2), (6, .int .i64 1), (7, .chan (some a1.ch)), (18, .agg #[.chan (some a0.ch), .chan (some a1.ch), .chan (some a2.ch)]), (19, .int .i64 1)] (by kernel_rfl) rfl ?_
   refine GL.k rfl hK38 (fun _ _ h => h) ?_
   refine G.seqK fun K39 hK40 => ?_
   refine G.region ?_
   refine GL.run (j := 5) 5 [0, 5, 6, 18, 19, 26, 27] [(0, pt d 0), (5, .int .i64 2), (6, .int .i64 1), (18, .agg #[.chan (some a0.ch), .chan (some a1.ch), .chan (some a2.ch)]), (19, .int .i64 1), (26, .bool true), (27, .chan (some a1.ch))] (by kernel_rfl) rfl ?_
   refine GL.sem (j := 6) (H10.lenChan (P := Try.prog) (t := 49) (ty := 3) (l := a1.l) 2 rfl Try.underlying49) [0, 5, 6, 18, 19, 26, 28] [(0, pt d 0), (5, .int .i64 2), (6, .int .i64 1), (18, .agg #[.chan (some a0.ch), .chan (some a1.ch), .chan (some a2.ch)]), (19, .int .i64 1), (26, .bool true), (28, .int .i64 (a1.l.length : Int))] (by kernel_rfl) (by kernel_rfl) rfl ?_
   refine GL.run (j := 8) 2 [0, 5, 6, 18, 19, 30] [(0, pt d 0), (5, .int .i64 2), (6, .int .i64 1), (18, .agg #[.chan (some a0.ch), .chan (some a1.ch), .chan (some a2.ch)]), (19, .int .i64 1), (30, .bool (decide (0 < (a1.l.length : Int))))] (by kernel_rfl) rfl ?_
   refine GL.k rfl hK40 (fun _ _ h => h) ?_
   cases hb41 : (decide (0 < (a1.l.length : Int)))
   · skip
     have hb41f := of_decide_eq_false hb41
     refine G.no rfl ?_
     refine G.skipK hK36 (fun _ _ h => h) ?_
     refine G.region ?_
     refine GL.run (j := 2) 2 [0, 5, 18, 19] [(0, pt d 0), (5, .int .i64 2), (18, .agg #[.chan (some a0.ch), .chan (some a1.ch), .chan (some a2.ch)]), (19, .int .i64 2)] (by kernel_rfl) rfl ?_
     refine GL.round rfl ?_
     refine G.seqK fun K42 hK43 => ?_
     refine G.region ?_
     refine GL.run (j := 1) 1 [0, 5, 18, 19, 20] [(0, pt d 0), (5, .int .i64 2), (18, .agg #[.chan (some a0.ch), .chan (some a1.ch), .chan (some a2.ch)]), (19, .int .i64 2), (20, .bool true)] (by kernel_rfl) rfl ?_
     refine GL.k rfl hK43 (fun _ _ h => h) ?_
     refine G.seqK fun K44 hK45 => ?_
     refine G.yes rfl ?_
     refine G.skipK hK45 (fun _ _ h => h) ?_
     refine G.seqK fun K46 hK47 => ?_
     refine G.block ?_
     refine G.seqK fun K48 hK49 => ?_
     refine G.region ?_
     refine GL.run (j := 4) 4 [0, 5, 6, 7, 18, 19] [(0, pt d 0), (5, .int .i64 2), (6, .int .i64 2), (7, .chan (some a2.ch)), (18, .agg #[.chan (some a0.ch), .chan (some a1.ch), .chan (some a2.ch)]), (19, .int .i64 2)] (by kernel_rfl) rfl ?_
     refine GL.k rfl hK49 (fun _ _ h => h) ?_
     refine G.seqK fun K50 hK51 => ?_
     refine G.region ?_
     refine GL.run (j := 8) 8 [0, 5, 6, 18, 19, 30] [(0, pt d 0), (5, .int .i64 2), (6, .int .i64 2), (18, .agg #[.chan (some a0.ch), .chan (some a1.ch), .chan (some a2.ch)]), (19, .int .i64 2), (30, .bool false)] (by kernel_rfl) rfl ?_
     refine GL.k rfl hK51 (fun _ _ h => h) ?_
     refine G.no rfl ?_
     refine G.skipK hK47 (fun _ _ h => h) ?_
     refine G.region ?_
     refine GL.run (j := 2) 2 [0, 5, 18, 19] [(0, pt d 0), (5, .int .i64 2), (18, .agg #[.chan (some a0.ch), .chan (some a1.ch), .chan (some a2.ch)]), (19, .int .i64 3)] (by kernel_rfl) rfl ?_
     refine GL.round rfl ?_
     refine G.seqK fun K52 hK53 => ?_
     refine G.region ?_
     refine GL.run (j := 1) 1 [0, 5, 18, 19, 20] [(0, pt d 0), (5, .int .i64 2), (18, .agg #[.chan (some a0.ch), .chan (some a1.ch), .chan (some a2.ch)]), (19, .int .i64 3), (20, .bool false)] (by kernel_rfl) rfl ?_
     refine GL.k rfl hK53 (fun _ _ h => h) ?_
     refine G.seqK fun K54 hK55 => ?_
     refine G.no rfl ?_
     refine G.exitKN hK17 (fun _ _ h => h) ?_
     refine GN.seqK fun K56 hK57 => ?_
     refine G.region ?_
     refine GL.run (j := 5) 5 [0, 5, 46] [(0, pt d 0), (5, .int .i64 2), (46, pt d 5)] (by kernel_rfl) rfl ?_
     obtain ⟨w58, r59, H60⟩ := H10.st (P := Try.prog) (o := 5) (ty := 3) (v := .int .i64 0) 0 rfl (by kernel_rfl) (by simp) rfl
     have H60 : Hp w S [.blk d [.chan (some a0.ch), .chan (some a1.ch), .chan (some a2.ch), .int .i64 (a0.p : Int), .int .i64 (a1.p : Int), .int .i64 0, .bool cl] 52, .obj a0.ch (chO room a0.l cl a0.s a0.r), .obj a1.ch (chO room a1.l cl a1.s a1.r), .obj a2.ch (chO room a2.l cl a2.s a2.r), .bag Gg] w58 := H60
     refine GL.semU (j := 6) r59 [0, 5] [(0, pt d 0), (5, .int .i64 2)] (by kernel_rfl) rfl rfl rfl ?_
     refine GL.kN rfl hK57 (fun _ _ h => h) ?_
     refine GN.seqK fun K61 hK62 => ?_
     refine G.region ?_
     refine GL.run (j := 5) 5 [5, 51] [(5, .int .i64 2), (51, pt d 2)] (by kernel_rfl) rfl ?_
     refine GL.sem (j := 6) (H60.ld (o := 2) (ty := 49) (v := .chan (some a2.ch)) 0 rfl (by kernel_rfl) rfl) [5, 52] [(5, .int .i64 2), (52, .chan (some a2.ch))] (by kernel_rfl) (by kernel_rfl) rfl ?_
     refine GL.kN rfl hK62 (fun _ _ h => h) ?_
     refine GN.seqS fun K63 hK64 => ?_
     rw [hlk] at H60
     have H65 : Hp w S [.blk d [.chan (some a0.ch), .chan (some a1.ch), .chan (some a2.ch), .int .i64 (a0.p : Int), .int .i64 (a1.p : Int), .int .i64 0, .bool cl] 52, .obj a0.ch (chO room a0.l cl a0.s a0.r), .obj a1.ch (chO room a1.l cl a1.s a1.r), .obj a2.ch (chO room (m_ :: t_) cl a2.s a2.r), .bag Gg] w58 := H60
     refine GN.recvBuf (z := .slice none 0 0) H65 3 (l := t_) (m := m_) rfl rfl rfl rfl (zv _) (by kernel_rfl) [5, 53] [(5, .int .i64 2), (53, .tuple #[.int .i64 0, .bool true, .slice m_.A m_.b.length m_.c])] (by kernel_rfl) (fun w66 H67 => ?_)
     refine GL.run (j := 3) 2 [5, 53, 55] [(5, .int .i64 2), (53, .tuple #[.int .i64 0, .bool true, .slice m_.A m_.b.length m_.c]), (55, .bool true)] (by kernel_rfl) rfl ?_
     refine GL.k rfl hK64 (fun _ _ h => h) ?_
     refine G.block ?_
     refine G.yes rfl ?_
     refine G.seqK fun K68 hK69 => ?_
     refine G.region ?_
     refine GL.run (j := 2) 2 [5, 8] [(5, .int .i64 2), (8, .slice m_.A m_.b.length m_.c)] (by kernel_rfl) rfl ?_
     refine GL.k rfl hK69 (fun _ _ h => h) ?_
     refine G.seqK fun K70 hK71 => ?_
     refine G.region ?_
     refine GL.run (j := 5) 5 [2, 3, 4] [(2, .slice m_.A m_.b.length m_.c), (3, .int .i64 2), (4, .bool true)] (by kernel_rfl) rfl ?_
     refine GL.k rfl hK71 (fun _ _ h => h) ?_
     refine G.ret ?_
     intro F_ hF_ hM_
     refine hRet _ _ (bodyPost_3 rfl (RV.tmp rfl) (RV.tmp rfl) (RV.tmp rfl) ?_ F_ hF_ hM_)
     have HZ : Hp w S [.blk d [.chan (some a0.pass.ch), .chan (some a1.pass.ch), .chan (some (a2.took t_).ch), .int .i64 (a0.pass.p : Int), .int .i64 (a1.pass.p : Int), .int .i64 (((a2.took t_).p : Nat) : Int), .bool cl] 52, .obj a0.pass.ch (chO room a0.pass.l cl a0.pass.s a0.pass.r), .obj a1.pass.ch (chO room a1.pass.l cl a1.pass.s a1.pass.r), .obj (a2.took t_).ch (chO room (a2.took t_).l cl (a2.took t_).s (a2.took t_).r), .bag Gg] w66 := by rw [show a0.pass.p = a0.p by unfold Lane.pass; exact if_pos (by omega), show a1.pass.p = a1.p by unfold Lane.pass; exact if_pos (by omega)]; exact H67
     exact ⟨rfl, HZ⟩
   · skip
     have hb41f := of_decide_eq_true hb41
     refine G.yes rfl ?_
     refine G.tail 10 (by kernel_rfl) (by kernel_rfl) ?_
     have H72 := H10.drew
     generalize ({ w9 with drawn := w9.drawn + 1 } : World) = w73 at H72 ⊢
     refine GS.run (j := 5) 5 [0, 5, 18, 19, 31, 32, 35] [(0, pt d 0), (5, .int .i64 2), (18, .agg #[.chan (some a0.ch), .chan (some a1.ch), .chan (some a2.ch)]), (19, .int .i64 1), (31, pt d 0), (32, .int .i64 1), (35, pt d 4)] (by kernel_rfl) rfl rfl ?_
     refine GS.sem (j := 6) (H72.ld (o := 4) (ty := 3) (v := .int .i64 (a1.p : Int)) 0 rfl (by kernel_rfl) rfl) [0, 5, 18, 19, 31, 32, 36] [(0, pt d 0), (5, .int .i64 2), (18, .agg #[.chan (some a0.ch), .chan (some a1.ch), .chan (some a2.ch)]), (19, .int .i64 1), (31, pt d 0), (32, .int .i64 1), (36, .int .i64 (a1.p : Int))] (by kernel_rfl) (by kernel_rfl) rfl rfl ?_
     refine GS.run (j := 10) 4 [0, 5, 18, 19, 37, 40] [(0, pt d 0), (5, .int .i64 2), (18, .agg #[.chan (some a0.ch), .chan (some a1.ch), .chan (some a2.ch)]), (19, .int .i64 1), (37, .int .i64 (IntKind.i64.wrap ((a1.p : Int) + 1))), (40, pt d 4)] (by kernel_rfl) rfl rfl ?_
     have e74 : (IntKind.i64.wrap ((a1.p : Int) + 1)) = ((a1.p + 1 : Nat) : Int) := by rw [in_i64 (by omega)]; omega
     refine GS.eq (M' := [(0, pt d 0), (5, .int .i64 2), (18, .agg #[.chan (some a0.ch), .chan (some a1.ch), .chan (some a2.ch)]), (19, .int .i64 1), (37, .int .i64 ((a1.p + 1 : Nat) : Int)), (40, pt d 4)]) (by rw [e74]) ?_
     clear e74
     refine GS.tail rfl ?_
     obtain ⟨w75, r76, H77⟩ := H72.st (P := Try.prog) (o := 4) (ty := 3) (v := .int .i64 ((a1.p + 1 : Nat) : Int)) 0 rfl (by kernel_rfl) (by simp) rfl
     have H77 : Hp w S [.blk d [.chan (some a0.ch), .chan (some a1.ch), .chan (some a2.ch), .int .i64 (a0.p : Int), .int .i64 ((a1.p + 1 : Nat) : Int), .int .i64 (a2.p : Int), .bool cl] 52, .obj a0.ch (chO room a0.l cl a0.s a0.r), .obj a1.ch (chO room a1.l cl a1.s a1.r), .obj a2.ch (chO room a2.l cl a2.s a2.r), .bag Gg] w75 := H77
     refine GL.semU (j := 11) r76 [0, 5, 18, 19] [(0, pt d 0), (5, .int .i64 2), (18, .agg #[.chan (some a0.ch), .chan (some a1.ch), .chan (some a2.ch)]), (19, .int .i64 1)] (by kernel_rfl) rfl rfl rfl ?_
     refine GL.k rfl hK36 (fun _ _ h => h) ?_
     refine G.region ?_
     refine GL.run (j := 2) 2 [0, 5, 18, 19] [(0, pt d 0), (5, .int .i64 2), (18, .agg #[.chan (some a0.ch), .chan (some a1.ch), .chan (some a2.ch)]), (19, .int .i64 2)] (by kernel_rfl) rfl ?_
     refine GL.round rfl ?_
     refine G.seqK fun K78 hK79 => ?_
     refine G.region ?_
     refine GL.run (j := 1) 1 [0, 5, 18, 19, 20] [(0, pt d 0), (5, .int .i64 2), (18, .agg #[.chan (some a0.ch), .chan (some a1.ch), .chan (some a2.ch)]), (19, .int .i64 2), (20, .bool true)] (by kernel_rfl) rfl ?_
     refine GL.k rfl hK79 (fun _ _ h => h) ?_
     refine G.seqK fun K80 hK81 => ?_
     refine G.yes rfl ?_
     refine G.skipK hK81 (fun _ _ h => h) ?_
     refine G.seqK fun K82 hK83 => ?_
     refine G.block ?_
     refine G.seqK fun K84 hK85 => ?_
     refine G.region ?_
     refine GL.run (j := 4) 4 [0, 5, 6, 7, 18, 19] [(0, pt d 0), (5, .int .i64 2), (6, .int .i64 2), (7, .chan (some a2.ch)), (18, .agg #[.chan (some a0.ch), .chan (some a1.ch), .chan (some a2.ch)]), (19, .int .i64 2)] (by kernel_rfl) rfl ?_
     refine GL.k rfl hK85 (fun _ _ h => h) ?_
     refine G.seqK fun K86 hK87 => ?_
     refine G.region ?_
     refine GL.run (j := 8) 8 [0, 5, 6, 18, 19, 30] [(0, pt d 0), (5, .int .i64 2), (6, .int .i64 2), (18, .agg #[.chan (some a0.ch), .chan (some a1.ch), .chan (some a2.ch)]), (19, .int .i64 2), (30, .bool false)] (by kernel_rfl) rfl ?_
     refine GL.k rfl hK87 (fun _ _ h => h) ?_
     refine G.no rfl ?_
     refine G.skipK hK83 (fun _ _ h => h) ?_
     refine G.region ?_
     refine GL.run (j := 2) 2 [0, 5, 18, 19] [(0, pt d 0), (5, .int .i64 2), (18, .agg #[.chan (some a0.ch), .chan (some a1.ch), .chan (some a2.ch)]), (19, .int .i64 3)] (by kernel_rfl) rfl ?_
     refine GL.round rfl ?_
     refine G.seqK fun K88 hK89 => ?_
     refine G.region ?_
     refine GL.run (j := 1) 1 [0, 5, 18, 19, 20] [(0, pt d 0), (5, .int .i64 2), (18, .agg #[.chan (some a0.ch), .chan (some a1.ch), .chan (some a2.ch)]), (19, .int .i64 3), (20, .bool false)] (by kernel_rfl) rfl ?_
     refine GL.k rfl hK89 (fun _ _ h => h) ?_
     refine G.seqK fun K90 hK91 => ?_
     refine G.no rfl ?_
     refine G.exitKN hK17 (fun _ _ h => h) ?_
     refine GN.seqK fun K92 hK93 => ?_
     refine G.region ?_
     refine GL.run (j := 5) 5 [0, 5, 46] [(0, pt d 0), (5, .int .i64 2), (46, pt d 5)] (by kernel_rfl) rfl ?_
     obtain ⟨w94, r95, H96⟩ := H77.st (P := Try.prog) (o := 5) (ty := 3) (v := .int .i64 0) 0 rfl (by kernel_rfl) (by simp) rfl
     have H96 : Hp w S [.blk d [.chan (some a0.ch), .chan (some a1.ch), .chan (some a2.ch), .int .i64 (a0.p : Int), .int .i64 ((a1.p + 1 : Nat) : Int), .int .i64 0, .bool cl] 52, .obj a0.ch (chO room a0.l cl a0.s a0.r), .obj a1.ch (chO room a1.l cl a1.s a1.r), .obj a2.ch (chO room a2.l cl a2.s a2.r), .bag Gg] w94 := H96
     refine GL.semU (j := 6) r95 [0, 5] [(0, pt d 0), (5, .int .i64 2)] (by kernel_rfl) rfl rfl rfl ?_
     refine GL.kN rfl hK93 (fun _ _ h => h) ?_
     refine GN.seqK fun K97 hK98 => ?_
     refine G.region ?_
     refine GL.run (j := 5) 5 [5, 51] [(5, .int .i64 2), (51, pt d 2)] (by kernel_rfl) rfl ?_
     refine GL.sem (j := 6) (H96.ld (o := 2) (ty := 49) (v := .chan (some a2.ch)) 0 rfl (by kernel_rfl) rfl) [5, 52] [(5, .int .i64 2), (52, .chan (some a2.ch))] (by kernel_rfl) (by kernel_rfl) rfl ?_
     refine GL.kN rfl hK98 (fun _ _ h => h) ?_
     refine GN.seqS fun K99 hK100 => ?_
     rw [hlk] at H96
     have H101 : Hp w S [.blk d [.chan (some a0.ch), .chan (some a1.ch), .chan (some a2.ch), .int .i64 (a0.p : Int), .int .i64 ((a1.p + 1 : Nat) : Int), .int .i64 0, .bool cl] 52, .obj a0.ch (chO room a0.l cl a0.s a0.r), .obj a1.ch (chO room a1.l cl a1.s a1.r), .obj a2.ch (chO room (m_ :: t_) cl a2.s a2.r), .bag Gg] w94 := H96
     refine GN.recvBuf (z := .slice none 0 0) H101 3 (l := t_) (m := m_) rfl rfl rfl rfl (zv _) (by kernel_rfl) [5, 53] [(5, .int .i64 2), (53, .tuple #[.int .i64 0, .bool true, .slice m_.A m_.b.length m_.c])] (by kernel_rfl) (fun w102 H103 => ?_)
     refine GL.run (j := 3) 2 [5, 53, 55] [(5, .int .i64 2), (53, .tuple #[.int .i64 0, .bool true, .slice m_.A m_.b.length m_.c]), (55, .bool true)] (by kernel_rfl) rfl ?_
     refine GL.k rfl hK100 (fun _ _ h => h) ?_
     refine G.block ?_
     refine G.yes rfl ?_
     refine G.seqK fun K104 hK105 => ?_
     refine G.region ?_
     refine GL.run (j := 2) 2 [5, 8] [(5, .int .i64 2), (8, .slice m_.A m_.b.length m_.c)] (by kernel_rfl) rfl ?_
     refine GL.k rfl hK105 (fun _ _ h => h) ?_
     refine G.seqK fun K106 hK107 => ?_
     refine G.region ?_
     refine GL.run (j := 5) 5 [2, 3, 4] [(2, .slice m_.A m_.b.length m_.c), (3, .int .i64 2), (4, .bool true)] (by kernel_rfl) rfl ?_
     refine GL.k rfl hK107 (fun _ _ h => h) ?_
     refine G.ret ?_
     intro F_ hF_ hM_
     refine hRet _ _ (bodyPost_3 rfl (RV.tmp rfl) (RV.tmp rfl) (RV.tmp rfl) ?_ F_ hF_ hM_)
     have HZ : Hp w S [.blk d [.chan (some a0.pass.ch), .chan (some a1.pass.ch), .chan (some (a2.took t_).ch), .int .i64 (a0.pass.p : Int), .int .i64 (a1.pass.p : Int), .int .i64 (((a2.took t_).p : Nat) : Int), .bool cl] 52, .obj a0.pass.ch (chO room a0.pass.l cl a0.pass.s a0.pass.r), .obj a1.pass.ch (chO room a1.pass.l cl a1.pass.s a1.pass.r), .obj (a2.took t_).ch (chO room (a2.took t_).l cl (a2.took t_).s (a2.took t_).r), .bag Gg] w102 := by rw [show a0.pass.p = a0.p by unfold Lane.pass; exact if_pos (by omega), show a1.pass.p = a1.p + 1 by unfold Lane.pass; exact if_neg (by omega)]; exact H103
     exact ⟨rfl, HZ⟩
 · skip
   have hb30f := of_decide_eq_true hb30
   refine G.yes rfl ?_
   refine G.tail 10 (by kernel_rfl) (by kernel_rfl) ?_
   have H108 := H10.drew
   generalize ({ w9 with drawn := w9.drawn + 1 } : World) = w109 at H108 ⊢
   refine GS.run (j := 5) 5 [0, 5, 18, 19, 31, 32, 35] [(0, pt d 0), (5, .int .i64 2), (18, .agg #[.chan (some a0.ch), .chan (some a1.ch), .chan (some a2.ch)]), (19, .int .i64 0), (31, pt d 0), (32, .int .i64 0), (35, pt d 3)] (by kernel_rfl) rfl rfl ?_
   refine GS.sem (j := 6) (H108.ld (o := 3) (ty := 3) (v := .int .i64 (a0.p : Int)) 0 rfl (by kernel_rfl) rfl) [0, 5, 18, 19, 31, 32, 36] [(0, pt d 0), (5, .int .i64 2), (18, .agg #[.chan (some a0.ch), .chan (some a1.ch), .chan (some a2.ch)]), (19, .int .i64 0), (31, pt d 0), (32, .int .i64 0), (36, .int .i64 (a0.p : Int))] (by kernel_rfl) (by kernel_rfl) rfl rfl ?_
   refine GS.run (j := 10) 4 [0, 5, 18, 19, 37, 40] [(0, pt d 0), (5, .int .i64 2), (18, .agg #[.chan (some a0.ch), .chan (some a1.ch), .chan (some a2.ch)]), (19, .int .i64 0), (37, .int .i64 (IntKind.i64.wrap ((a0.p : Int) + 1))), (40, pt d 3)] (by kernel_rfl) rfl rfl ?_
   have e110 : (IntKind.i64.wrap ((a0.p : Int) + 1)) = ((a0.p + 1 : Nat) : Int) := by rw [in_i64 (by omega)]; omega
   refine GS.eq (M' := [(0, pt d 0), (5, .int .i64 2), (18, .agg #[.chan (some a0.ch), .chan (some a1.ch), .chan (some a2.ch)]), (19, .int .i64 0), (37, .int .i64 ((a0.p + 1 : Nat) : Int)), (40, pt d 3)]) (by rw [e110]) ?_
   clear e110
   refine GS.tail rfl ?_
   obtain ⟨w111, r112, H113⟩ := H108.st (P := Try.prog) (o := 3) (ty := 3) (v := .int .i64 ((a0.p + 1 : Nat) : Int)) 0 rfl (by kernel_rfl) (by simp) rfl
   have H113 : Hp w S [.blk d [.chan (some a0.ch), .chan (some a1.ch), .chan (some a2.ch), .int .i64 ((a0.p + 1 : Nat) : Int), .int .i64 (a1.p : Int), .int .i64 (a2.p : Int), .bool cl] 52, .obj a0.ch (chO room a0.l cl a0.s a0.r), .obj a1.ch (chO room a1.l cl a1.s a1.r), .obj a2.ch (chO room a2.l cl a2.s a2.r), .bag Gg] w111 := H113
   refine GL.semU (j := 11) r112 [0, 5, 18, 19] [(0, pt d 0), (5, .int .i64 2), (18, .agg #[.chan (some a0.ch), .chan (some a1.ch), .chan (some a2.ch)]), (19, .int .i64 0)] (by kernel_rfl) rfl rfl rfl ?_
   refine GL.k rfl hK25 (fun _ _ h => h) ?_
   refine G.region ?_
   refine GL.run (j := 2) 2 [0, 5, 18, 19] [(0, pt d 0), (5, .int .i64 2), (18, .agg #[.chan (some a0.ch), .chan (some a1.ch), .chan (some a2.ch)]), (19, .int .i64 1)] (by kernel_rfl) rfl ?_
   refine GL.round rfl ?_
   refine G.seqK fun K114 hK115 => ?_
   refine G.region ?_
   refine GL.run (j := 1) 1 [0, 5, 18, 19, 20] [(0, pt d 0), (5, .int .i64 2), (18, .agg #[.chan (some a0.ch), .chan (some a1.ch), .chan (some a2.ch)]), (19, .int .i64 1), (20, .bool true)] (by kernel_rfl) rfl ?_
   refine GL.k rfl hK115 (fun _ _ h => h) ?_
   refine G.seqK fun K116 hK117 => ?_
   refine G.yes rfl ?_
   refine G.skipK hK117 (fun _ _ h => h) ?_
   refine G.seqK fun K118 hK119 => ?_
   refine G.block ?_
   refine G.seqK fun K120 hK121 => ?_
   refine G.region ?_
   refine GL.run (j := 4) 4 [0, 5, 6, 7, 18, 19] [(0, pt d 0), (5, .int .i64 2), (6, .int .i64 1), (7, .chan (some a1.ch)), (18, .agg #[.chan (some a0.ch), .chan (some a1.ch), .chan (some a2.ch)]), (19, .int .i64 1)] (by kernel_rfl) rfl ?_
   refine GL.k rfl hK121 (fun _ _ h => h) ?_
   refine G.seqK fun K122 hK123 => ?_
   refine G.region ?_
   refine GL.run (j := 5) 5 [0, 5, 6, 18, 19, 26, 27] [(0, pt d 0), (5, .int .i64 2), (6, .int .i64 1), (18, .agg #[.chan (some a0.ch), .chan (some a1.ch), .chan (some a2.ch)]), (19, .int .i64 1), (26, .bool true), (27, .chan (some a1.ch))] (by kernel_rfl) rfl ?_
   refine GL.sem (j := 6) (H113.lenChan (P := Try.prog) (t := 49) (ty := 3) (l := a1.l) 2 rfl Try.underlying49) [0, 5, 6, 18, 19, 26, 28] [(0, pt d 0), (5, .int .i64 2), (6, .int .i64 1), (18, .agg #[.chan (some a0.ch), .chan (some a1.ch), .chan (some a2.ch)]), (19, .int .i64 1), (26, .bool true), (28, .int .i64 (a1.l.length : Int))] (by kernel_rfl) (by kernel_rfl) rfl ?_
   refine GL.run (j := 8) 2 [0, 5, 6, 18, 19, 30] [(0, pt d 0), (5, .int .i64 2), (6, .int .i64 1), (18, .agg #[.chan (some a0.ch), .chan (some a1.ch), .chan (some a2.ch)]), (19, .int .i64 1), (30, .bool (decide (0 < (a1.l.length : Int))))] (by kernel_rfl) rfl ?_
   refine GL.k rfl hK123 (fun _ _ h => h) ?_
   cases hb124 : (decide (0 < (a1.l.length : Int)))
   · skip
     have hb124f := of_decide_eq_false hb124
     refine G.no rfl ?_
     refine G.skipK hK119 (fun _ _ h => h) ?_
     refine G.region ?_
     refine GL.run (j := 2) 2 [0, 5, 18, 19] [(0, pt d 0), (5, .int .i64 2), (18, .agg #[.chan (some a0.ch), .chan (some a1.ch), .chan (some a2.ch)]), (19, .int .i64 2)] (by kernel_rfl) rfl ?_
     refine GL.round rfl ?_
     refine G.seqK fun K125 hK126 => ?_
     refine G.region ?_
     refine GL.run (j := 1) 1 [0, 5, 18, 19, 20] [(0, pt d 0), (5, .int .i64 2), (18, .agg #[.chan (some a0.ch), .chan (some a1.ch), .chan (some a2.ch)]), (19, .int .i64 2), (20, .bool true)] (by kernel_rfl) rfl ?_
     refine GL.k rfl hK126 (fun _ _ h => h) ?_
     refine G.seqK fun K127 hK128 => ?_
     refine G.yes rfl ?_
     refine G.skipK hK128 (fun _ _ h => h) ?_
     refine G.seqK fun K129 hK130 => ?_
     refine G.block ?_
     refine G.seqK fun K131 hK132 => ?_
     refine G.region ?_
     refine GL.run (j := 4) 4 [0, 5, 6, 7, 18, 19] [(0, pt d 0), (5, .int .i64 2), (6, .int .i64 2), (7, .chan (some a2.ch)), (18, .agg #[.chan (some a0.ch), .chan (some a1.ch), .chan (some a2.ch)]), (19, .int .i64 2)] (by kernel_rfl) rfl ?_
     refine GL.k rfl hK132 (fun _ _ h => h) ?_
     refine G.seqK fun K133 hK134 => ?_
     refine G.region ?_
     refine GL.run (j := 8) 8 [0, 5, 6, 18, 19, 30] [(0, pt d 0), (5, .int .i64 2), (6, .int .i64 2), (18, .agg #[.chan (some a0.ch), .chan (some a1.ch), .chan (some a2.ch)]), (19, .int .i64 2), (30, .bool false)] (by kernel_rfl) rfl ?_
     refine GL.k rfl hK134 (fun _ _ h => h) ?_
     refine G.no rfl ?_
     refine G.skipK hK130 (fun _ _ h => h) ?_
     refine G.region ?_
     refine GL.run (j := 2) 2 [0, 5, 18, 19] [(0, pt d 0), (5, .int .i64 2), (18, .agg #[.chan (some a0.ch), .chan (some a1.ch), .chan (some a2.ch)]), (19, .int .i64 3)] (by kernel_rfl) rfl ?_
     refine GL.round rfl ?_
     refine G.seqK fun K135 hK136 => ?_
     refine G.region ?_
     refine GL.run (j := 1) 1 [0, 5, 18, 19, 20] [(0, pt d 0), (5, .int .i64 2), (18, .agg #[.chan (some a0.ch), .chan (some a1.ch), .chan (some a2.ch)]), (19, .int .i64 3), (20, .bool false)] (by kernel_rfl) rfl ?_
     refine GL.k rfl hK136 (fun _ _ h => h) ?_
     refine G.seqK fun K137 hK138 => ?_
     refine G.no rfl ?_
     refine G.exitKN hK17 (fun _ _ h => h) ?_
     refine GN.seqK fun K139 hK140 => ?_
     refine G.region ?_
     refine GL.run (j := 5) 5 [0, 5, 46] [(0, pt d 0), (5, .int .i64 2), (46, pt d 5)] (by kernel_rfl) rfl ?_
     obtain ⟨w141, r142, H143⟩ := H113.st (P := Try.prog) (o := 5) (ty := 3) (v := .int .i64 0) 0 rfl (by kernel_rfl) (by simp) rfl
     have H143 : Hp w S [.blk d [.chan (some a0.ch), .chan (some a1.ch), .chan (some a2.ch), .int .i64 ((a0.p + 1 : Nat) : Int), .int .i64 (a1.p : Int), .int .i64 0, .bool cl] 52, .obj a0.ch (chO room a0.l cl a0.s a0.r), .obj a1.ch (chO room a1.l cl a1.s a1.r), .obj a2.ch (chO room a2.l cl a2.s a2.r), .bag Gg] w141 := H143
     refine GL.semU (j := 6) r142 [0, 5] [(0, pt d 0), (5, .int .i64 2)] (by kernel_rfl) rfl rfl rfl ?_
     refine GL.kN rfl hK140 (fun _ _ h => h) ?_
     refine GN.seqK fun K144 hK145 => ?_
     refine G.region ?_
     refine GL.run (j := 5) 5 [5, 51] [(5, .int .i64 2), (51, pt d 2)] (by kernel_rfl) rfl ?_
     refine GL.sem (j := 6) (H143.ld (o := 2) (ty := 49) (v := .chan (some a2.ch)) 0 rfl (by kernel_rfl) rfl) [5, 52] [(5, .int .i64 2), (52, .chan (some a2.ch))] (by kernel_rfl) (by kernel_rfl) rfl ?_
     refine GL.kN rfl hK145 (fun _ _ h => h) ?_
     refine GN.seqS fun K146 hK147 => ?_
     rw [hlk] at H143
     have H148 : Hp w S [.blk d [.chan (some a0.ch), .chan (some a1.ch), .chan (some a2.ch), .int .i64 ((a0.p + 1 : Nat) : Int), .int .i64 (a1.p : Int), .int .i64 0, .bool cl] 52, .obj a0.ch (chO room a0.l cl a0.s a0.r), .obj a1.ch (chO room a1.l cl a1.s a1.r), .obj a2.ch (chO room (m_ :: t_) cl a2.s a2.r), .bag Gg] w141 := H143
     refine GN.recvBuf (z := .slice none 0 0) H148 3 (l := t_) (m := m_) rfl rfl rfl rfl (zv _) (by kernel_rfl) [5, 53] [(5, .int .i64 2), (53, .tuple #[.int .i64 0, .bool true, .slice m_.A m_.b.length m_.c])] (by kernel_rfl) (fun w149 H150 => ?_)
     refine GL.run (j := 3) 2 [5, 53, 55] [(5, .int .i64 2), (53, .tuple #[.int .i64 0, .bool true, .slice m_.A m_.b.length m_.c]), (55, .bool true)] (by kernel_rfl) rfl ?_
     refine GL.k rfl hK147 (fun _ _ h => h) ?_
     refine G.block ?_
     refine G.yes rfl ?_
     refine G.seqK fun K151 hK152 => ?_
     refine G.region ?_
     refine GL.run (j := 2) 2 [5, 8] [(5, .int .i64 2), (8, .slice m_.A m_.b.length m_.c)] (by kernel_rfl) rfl ?_
     refine GL.k rfl hK152 (fun _ _ h => h) ?_
     refine G.seqK fun K153 hK154 => ?_
     refine G.region ?_
     refine GL.run (j := 5) 5 [2, 3, 4] [(2, .slice m_.A m_.b.length m_.c), (3, .int .i64 2), (4, .bool true)] (by kernel_rfl) rfl ?_
     refine GL.k rfl hK154 (fun _ _ h => h) ?_
     refine G.ret ?_
     intro F_ hF_ hM_
     refine hRet _ _ (bodyPost_3 rfl (RV.tmp rfl) (RV.tmp rfl) (RV.tmp rfl) ?_ F_ hF_ hM_)
     have HZ : Hp w S [.blk d [.chan (some a0.pass.ch), .chan (some a1.pass.ch), .chan (some (a2.took t_).ch), .int .i64 (a0.pass.p : Int), .int .i64 (a1.pass.p : Int), .int .i64 (((a2.took t_).p : Nat) : Int), .bool cl] 52, .obj a0.pass.ch (chO room a0.pass.l cl a0.pass.s a0.pass.r), .obj a1.pass.ch (chO room a1.pass.l cl a1.pass.s a1.pass.r), .obj (a2.took t_).ch (chO room (a2.took t_).l cl (a2.took t_).s (a2.took t_).r), .bag Gg] w149 := by rw [show a0.pass.p = a0.p + 1 by unfold Lane.pass; exact if_neg (by omega), show a1.pass.p = a1.p by unfold Lane.pass; exact if_pos (by omega)]; exact H150
     exact ⟨rfl, HZ⟩
   · skip
     have hb124f := of_decide_eq_true hb124
     refine G.yes rfl ?_
     refine G.tail 10 (by kernel_rfl) (by kernel_rfl) ?_
     have H155 := H113.drew
     generalize ({ w111 with drawn := w111.drawn + 1 } : World) = w156 at H155 ⊢
     refine GS.run (j := 5) 5 [0, 5, 18, 19, 31, 32, 35] [(0, pt d 0), (5, .int .i64 2), (18, .agg #[.chan (some a0.ch), .chan (some a1.ch), .chan (some a2.ch)]), (19, .int .i64 1), (31, pt d 0), (32, .int .i64 1), (35, pt d 4)] (by kernel_rfl) rfl rfl ?_
     refine GS.sem (j := 6) (H155.ld (o := 4) (ty := 3) (v := .int .i64 (a1.p : Int)) 0 rfl (by kernel_rfl) rfl) [0, 5, 18, 19, 31, 32, 36] [(0, pt d 0), (5, .int .i64 2), (18, .agg #[.chan (some a0.ch), .chan (some a1.ch), .chan (some a2.ch)]), (19, .int .i64 1), (31, pt d 0), (32, .int .i64 1), (36, .int .i64 (a1.p : Int))] (by kernel_rfl) (by kernel_rfl) rfl rfl ?_
     refine GS.run (j := 10) 4 [0, 5, 18, 19, 37, 40] [(0, pt d 0), (5, .int .i64 2), (18, .agg #[.chan (some a0.ch), .chan (some a1.ch), .chan (some a2.ch)]), (19, .int .i64 1), (37, .int .i64 (IntKind.i64.wrap ((a1.p : Int) + 1))), (40, pt d 4)] (by kernel_rfl) rfl rfl ?_
     have e157 : (IntKind.i64.wrap ((a1.p : Int) + 1)) = ((a1.p + 1 : Nat) : Int) := by rw [in_i64 (by omega)]; omega
     refine GS.eq (M' := [(0, pt d 0), (5, .int .i64 2), (18, .agg #[.chan (some a0.ch), .chan (some a1.ch), .chan (some a2.ch)]), (19, .int .i64 1), (37, .int .i64 ((a1.p + 1 : Nat) : Int)), (40, pt d 4)]) (by rw [e157]) ?_
     clear e157
     refine GS.tail rfl ?_
     obtain ⟨w158, r159, H160⟩ := H155.st (P := Try.prog) (o := 4) (ty := 3) (v := .int .i64 ((a1.p + 1 : Nat) : Int)) 0 rfl (by kernel_rfl) (by simp) rfl
     have H160 : Hp w S [.blk d [.chan (some a0.ch), .chan (some a1.ch), .chan (some a2.ch), .int .i64 ((a0.p + 1 : Nat) : Int), .int .i64 ((a1.p + 1 : Nat) : Int), .int .i64 (a2.p : Int), .bool cl] 52, .obj a0.ch (chO room a0.l cl a0.s a0.r), .obj a1.ch (chO room a1.l cl a1.s a1.r), .obj a2.ch (chO room a2.l cl a2.s a2.r), .bag Gg] w158 := H160
     refine GL.semU (j := 11) r159 [0, 5, 18, 19] [(0, pt d 0), (5, .int .i64 2), (18, .agg #[.chan (some a0.ch), .chan (some a1.ch), .chan (some a2.ch)]), (19, .int .i64 1)] (by kernel_rfl) rfl rfl rfl ?_
     refine GL.k rfl hK119 (fun _ _ h => h) ?_
     refine G.region ?_
     refine GL.run (j := 2) 2 [0, 5, 18, 19] [(0, pt d 0), (5, .int .i64 2), (18, .agg #[.chan (some a0.ch), .chan (some a1.ch), .chan (some a2.ch)]), (19, .int .i64 2)] (by kernel_rfl) rfl ?_
     refine GL.round rfl ?_
     refine G.seqK fun K161 hK162 => ?_
     refine G.region ?_
     refine GL.run (j := 1) 1 [0, 5, 18, 19, 20] [(0, pt d 0), (5, .int .i64 2), (18, .agg #[.chan (some a0.ch), .chan (some a1.ch), .chan (some a2.ch)]), (19, .int .i64 2), (20, .bool true)] (by kernel_rfl) rfl ?_
     refine GL.k rfl hK162 (fun _ _ h => h) ?_
     refine G.seqK fun K163 hK164 => ?_
     refine G.yes rfl ?_
     refine G.skipK hK164 (fun _ _ h => h) ?_
     refine G.seqK fun K165 hK166 => ?_
     refine G.block ?_
     refine G.seqK fun K167 hK168 => ?_
     refine G.region ?_
     refine GL.run (j := 4) 4 [0, 5, 6, 7, 18, 19] [(0, pt d 0), (5, .int .i64 2), (6, .int .i64 2), (7, .chan (some a2.ch)), (18, .agg #[.chan (some a0.ch), .chan (some a1.ch), .chan (some a2.ch)]), (19, .int .i64 2)] (by kernel_rfl) rfl ?_
     refine GL.k rfl hK168 (fun _ _ h => h) ?_
     refine G.seqK fun K169 hK170 => ?_
     refine G.region ?_
     refine GL.run (j := 8) 8 [0, 5, 6, 18, 19, 30] [(0, pt d 0), (5, .int .i64 2), (6, .int .i64 2), (18, .agg #[.chan (some a0.ch), .chan (some a1.ch), .chan (some a2.ch)]), (19, .int .i64 2), (30, .bool false)] (by kernel_rfl) rfl ?_
     refine GL.k rfl hK170 (fun _ _ h => h) ?_
     refine G.no rfl ?_
     refine G.skipK hK166 (fun _ _ h => h) ?_
     refine G.region ?_
     refine GL.run (j := 2) 2 [0, 5, 18, 19] [(0, pt d 0), (5, .int .i64 2), (18, .agg #[.chan (some a0.ch), .chan (some a1.ch), .chan (some a2.ch)]), (19, .int .i64 3)] (by kernel_rfl) rfl ?_
     refine GL.round rfl ?_
     refine G.seqK fun K171 hK172 => ?_
     refine G.region ?_
     refine GL.run (j := 1) 1 [0, 5, 18, 19, 20] [(0, pt d 0), (5, .int .i64 2), (18, .agg #[.chan (some a0.ch), .chan (some a1.ch), .chan (some a2.ch)]), (19, .int .i64 3), (20, .bool false)] (by kernel_rfl) rfl ?_
     refine GL.k rfl hK172 (fun _ _ h => h) ?_
     refine G.seqK fun K173 hK174 => ?_
     refine G.no rfl ?_
     refine G.exitKN hK17 (fun _ _ h => h) ?_
     refine GN.seqK fun K175 hK176 => ?_
     refine G.region ?_
     refine GL.run (j := 5) 5 [0, 5, 46] [(0, pt d 0), (5, .int .i64 2), (46, pt d 5)] (by kernel_rfl) rfl ?_
     obtain ⟨w177, r178, H179⟩ := H160.st (P := Try.prog) (o := 5) (ty := 3) (v := .int .i64 0) 0 rfl (by kernel_rfl) (by simp) rfl
     have H179 : Hp w S [.blk d [.chan (some a0.ch), .chan (some a1.ch), .chan (some a2.ch), .int .i64 ((a0.p + 1 : Nat) : Int), .int .i64 ((a1.p + 1 : Nat) : Int), .int .i64 0, .bool cl] 52, .obj a0.ch (chO room a0.l cl a0.s a0.r), .obj a1.ch (chO room a1.l cl a1.s a1.r), .obj a2.ch (chO room a2.l cl a2.s a2.r), .bag Gg] w177 := H179
     refine GL.semU (j := 6) r178 [0, 5] [(0, pt d 0), (5, .int .i64 2)] (by kernel_rfl) rfl rfl rfl ?_
     refine GL.kN rfl hK176 (fun _ _ h => h) ?_
     refine GN.seqK fun K180 hK181 => ?_
     refine G.region ?_
     refine GL.run (j := 5) 5 [5, 51] [(5, .int .i64 2), (51, pt d 2)] (by kernel_rfl) rfl ?_
     refine GL.sem (j := 6) (H179.ld (o := 2) (ty := 49) (v := .chan (some a2.ch)) 0 rfl (by kernel_rfl) rfl) [5, 52] [(5, .int .i64 2), (52, .chan (some a2.ch))] (by kernel_rfl) (by kernel_rfl) rfl ?_
     refine GL.kN rfl hK181 (fun _ _ h => h) ?_
     refine GN.seqS fun K182 hK183 => ?_
     rw [hlk] at H179
     have H184 : Hp w S [.blk d [.chan (some a0.ch), .chan (some a1.ch), .chan (some a2.ch), .int .i64 ((a0.p + 1 : Nat) : Int), .int .i64 ((a1.p + 1 : Nat) : Int), .int .i64 0, .bool cl] 52, .obj a0.ch (chO room a0.l cl a0.s a0.r), .obj a1.ch (chO room a1.l cl a1.s a1.r), .obj a2.ch (chO room (m_ :: t_) cl a2.s a2.r), .bag Gg] w177 := H179
     refine GN.recvBuf (z := .slice none 0 0) H184 3 (l := t_) (m := m_) rfl rfl rfl rfl (zv _) (by kernel_rfl) [5, 53] [(5, .int .i64 2), (53, .tuple #[.int .i64 0, .bool true, .slice m_.A m_.b.length m_.c])] (by kernel_rfl) (fun w185 H186 => ?_)
     refine GL.run (j := 3) 2 [5, 53, 55] [(5, .int .i64 2), (53, .tuple #[.int .i64 0, .bool true, .slice m_.A m_.b.length m_.c]), (55, .bool true)] (by kernel_rfl) rfl ?_
     refine GL.k rfl hK183 (fun _ _ h => h) ?_
     refine G.block ?_
     refine G.yes rfl ?_
     refine G.seqK fun K187 hK188 => ?_
     refine G.region ?_
     refine GL.run (j := 2) 2 [5, 8] [(5, .int .i64 2), (8, .slice m_.A m_.b.length m_.c)] (by kernel_rfl) rfl ?_
     refine GL.k rfl hK188 (fun _ _ h => h) ?_
     refine G.seqK fun K189 hK190 => ?_
     refine G.region ?_
     refine GL.run (j := 5) 5 [2, 3, 4] [(2, .slice m_.A m_.b.length m_.c), (3, .int .i64 2), (4, .bool true)] (by kernel_rfl) rfl ?_
     refine GL.k rfl hK190 (fun _ _ h => h) ?_
     refine G.ret ?_
     intro F_ hF_ hM_
     refine hRet _ _ (bodyPost_3 rfl (RV.tmp rfl) (RV.tmp rfl) (RV.tmp rfl) ?_ F_ hF_ hM_)
     have HZ : Hp w S [.blk d [.chan (some a0.pass.ch), .chan (some a1.pass.ch), .chan (some (a2.took t_).ch), .int .i64 (a0.pass.p : Int), .int .i64 (a1.pass.p : Int), .int .i64 (((a2.took t_).p : Nat) : Int), .bool cl] 52, .obj a0.pass.ch (chO room a0.pass.l cl a0.pass.s a0.pass.r), .obj a1.pass.ch (chO room a1.pass.l cl a1.pass.s a1.pass.r), .obj (a2.took t_).ch (chO room (a2.took t_).l cl (a2.took t_).s (a2.took t_).r), .bag Gg] w185 := by rw [show a0.pass.p = a0.p + 1 by unfold Lane.pass; exact if_neg (by omega), show a1.pass.p = a1.p + 1 by unfold Lane.pass; exact if_neg (by omega)]; exact H186
     exact ⟨rfl, HZ⟩
set_option maxHeartbeats 4000000 in
theorem TakeNone_calls (S : List Nat) (d room : Nat) (cl : Bool) (a0 a1 a2 : Lane) (Gg : List (Option Addr × Nat × Nat × TypeId × List Value)) (w : World) (h0 : Hp w S [.blk d [.chan (some a0.ch), .chan (some a1.ch), .chan (some a2.ch), .int .i64 (a0.p : Int), .int .i64 (a1.p : Int), .int .i64 (a2.p : Int), .bool cl] 52, .obj a0.ch (chO room a0.l cl a0.s a0.r), .obj a1.ch (chO room a1.l cl a1.s a1.r), .obj a2.ch (chO room a2.l cl a2.s a2.r), .bag Gg] w) (hz0 : a0.z) (hz1 : a1.z) (hz2 : a2.z) (htk : tkN a0 a1 a2 = 3) : Calls Try.prog 9 #[pt d 0] w fun e w' => e = .returned (.tuple #[.slice none 0 0, .int .i64 0, .bool false]) ∧ Hp w S [.blk d [.chan (some a0.ch), .chan (some a1.ch), .chan (some a2.ch), .int .i64 (a0.p : Int), .int .i64 (a1.p : Int), .int .i64 (a2.p : Int), .bool cl] 52, .obj a0.ch (chO room a0.l cl a0.s a0.r), .obj a1.ch (chO room a1.l cl a1.s a1.r), .obj a2.ch (chO room a2.l cl a2.s a2.r), .bag Gg] w' := by
 refine calls_GN (args := [pt d 0]) Try.func9 rfl Try.ntmps9 rfl ?_
 intro Q0 hRet hNor hPan
 have H := h0
 have H : Hp w S [.blk d [.chan (some a0.ch), .chan (some a1.ch), .chan (some a2.ch), .int .i64 (a0.p : Int), .int .i64 (a1.p : Int), .int .i64 (a2.p : Int), .bool cl] 52, .obj a0.ch (chO room a0.l cl a0.s a0.r), .obj a1.ch (chO room a1.l cl a1.s a1.r), .obj a2.ch (chO room a2.l cl a2.s a2.r), .bag Gg] w := H
 refine GN.seqK fun K1 hK2 => ?_
 refine G.region ?_
 refine GL.run (j := 3) 3 [0] [(0, pt d 0)] (by kernel_rfl) rfl ?_
 refine GL.kN rfl hK2 (fun _ _ h => h) ?_
 refine GN.seqK fun K3 hK4 => ?_
 refine G.seqK fun K5 hK6 => ?_
 refine G.region ?_
 refine GL.run (j := 2) 2 [0, 10] [(0, pt d 0), (10, .bool false)] (by kernel_rfl) rfl ?_
 refine GL.k rfl hK6 (fun _ _ h => h) ?_
 refine G.no rfl ?_
 refine G.skipKN hK4 (fun _ _ h => h) ?_
 refine GN.seqK fun K7 hK8 => ?_
 refine G.region ?_
 refine GL.run (j := 1) 1 [0, 11] [(0, pt d 0), (11, pt d 0)] (by kernel_rfl) rfl ?_
 refine GL.call (j := 2) ((by have h_ := next_calls (ids [.blk d [.chan (some a0.ch), .chan (some a1.ch), .chan (some a2.ch), .int .i64 (a0.p : Int), .int .i64 (a1.p : Int), .int .i64 (a2.p : Int), .bool cl] 52, .obj a0.ch (chO room a0.l cl a0.s a0.r), .obj a1.ch (chO room a1.l cl a1.s a1.r), .obj a2.ch (chO room a2.l cl a2.s a2.r), .bag Gg]) d room cl a0 a1 a2 Gg w (Hp.startL (A := [.blk d [.chan (some a0.ch), .chan (some a1.ch), .chan (some a2.ch), .int .i64 (a0.p : Int), .int .i64 (a1.p : Int), .int .i64 (a2.p : Int), .bool cl] 52, .obj a0.ch (chO room a0.l cl a0.s a0.r), .obj a1.ch (chO room a1.l cl a1.s a1.r), .obj a2.ch (chO room a2.l cl a2.s a2.r), .bag Gg]) (B := []) H) hz0 hz1 hz2; rw [show tkI a0 a1 a2 = -1 by unfold tkI; rw [htk]; rfl] at h_; exact h_)) (by kernel_rfl) rfl (fun e_ w9 hR => ?_)
 obtain ⟨rfl, H11⟩ := hR
 have H10 : Hp w S [.blk d [.chan (some a0.ch), .chan (some a1.ch), .chan (some a2.ch), .int .i64 (a0.p : Int), .int .i64 (a1.p : Int), .int .i64 (a2.p : Int), .bool cl] 52, .obj a0.ch (chO room a0.l cl a0.s a0.r), .obj a1.ch (chO room a1.l cl a1.s a1.r), .obj a2.ch (chO room a2.l cl a2.s a2.r), .bag Gg] w9 := Hp.callL (A := [.blk d [.chan (some a0.ch), .chan (some a1.ch), .chan (some a2.ch), .int .i64 (a0.p : Int), .int .i64 (a1.p : Int), .int .i64 (a2.p : Int), .bool cl] 52, .obj a0.ch (chO room a0.l cl a0.s a0.r), .obj a1.ch (chO room a1.l cl a1.s a1.r), .obj a2.ch (chO room a2.l cl a2.s a2.r), .bag Gg]) (B := []) H H11
 refine ⟨_, rfl, [0, 12], [(0, pt d 0), (12, .int .i64 (-1))], by kernel_rfl, ?_⟩
 refine GL.run (j := 3) 1 [0, 5] [(0, pt d 0), (5, .int .i64 (-1))] (by kernel_rfl) rfl ?_
 refine GL.kN rfl hK8 (fun _ _ h => h) ?_
 refine GN.seqK fun K12 hK13 => ?_
 refine G.seqK fun K14 hK15 => ?_
 refine G.region ?_
 refine GL.run (j := 2) 2 [0, 5, 14] [(0, pt d 0), (5, .int .i64 (-1)), (14, .bool true)] (by kernel_rfl) rfl ?_
 refine GL.k rfl hK15 (fun _ _ h => h) ?_
 refine G.yes rfl ?_
 refine G.seqK fun K16 hK17 => ?_
 refine G.region ?_
 refine GL.run (j := 3) 3 [2, 3, 4] [(2, .slice none 0 0), (3, .int .i64 0), (4, .bool false)] (by kernel_rfl) rfl ?_
 refine GL.k rfl hK17 (fun _ _ h => h) ?_
 refine G.ret ?_
 intro F_ hF_ hM_
 refine hRet _ _ (bodyPost_3 rfl (RV.tmp rfl) (RV.tmp rfl) (RV.tmp rfl) ?_ F_ hF_ hM_)
 exact ⟨rfl, H10⟩
end Go.Proofs.Ythcdelpdgkoioaa
set_option maxRecDepth 100000
namespace Go.Proofs.Ythcdelpdgkoioaa
open Go.RowKit
def qs (t p : Nat) : List (List UInt8) := (List.range' t (p - t)).map fun i => [UInt8.ofNat i]
def LQ (a : Lane) (t p : Nat) : Prop := a.l.map Msg.b = qs t p ∧ t ≤ p
def W3 (i : Nat) (x y z : Lane) : Prop := x.l.length ≠ 0 ∧ x.p = i ∧ i ≤ 6 ∧ (i = 5 → y.p = 0 ∨ z.p = 0) ∧ (i = 6 → y.p ≤ 1 ∧ z.p ≤ 1)
section
variable {a a0 a1 a2 : Lane} {t p i k : Nat} {r0 r1 r2 : List Msg} {m : Msg}
theorem LQ.len (h : LQ a t p) : a.l.length = p - t := by
 have := congrArg List.length h.1
 simpa [qs] using this
theorem LQ.put (h : LQ a t p) (hm : m.b = [UInt8.ofNat p]) : LQ (a.put m) t (p + 1) := by
 refine ⟨?_, Nat.le_succ_of_le h.2⟩
 have e : p + 1 - t = (p - t) + 1 := by have := h.2; omega
 show (a.l ++ [m]).map Msg.b = _
 rw [List.map_append, h.1, qs, qs, e, List.range'_concat, List.map_append, List.map_cons, List.map_nil, hm, List.map_cons, List.map_nil]
 have : t + 1 * (p - t) = p := by have := h.2; omega
 rw [this]
theorem LQ.head (h : LQ a t p) (hl : a.l.length ≠ 0) : ∃ mA mc r, a.l = Msg.mk mA [UInt8.ofNat t] mc :: r ∧ t < p ∧ LQ (a.took r) (t + 1) p := by
 have hlen := h.len
 have e : p - t = (p - (t + 1)) + 1 := by omega
 cases hc : a.l with
 | nil => rw [hc] at hl; exact absurd rfl hl
 | cons m r =>
   have h1 := h.1
   rw [hc, qs, e, List.range'_succ, List.map_cons, List.map_cons] at h1
   injection h1 with h2 h3
   obtain ⟨mA, mb, mc⟩ := m
   cases h2
   exact ⟨mA, mc, r, rfl, by omega, h3, by omega⟩
theorem LQ.new (c : Nat) : LQ (Lane.new c) 0 0 := ⟨rfl, Nat.le_refl _⟩
theorem LQ.pass (h : LQ a t p) : LQ a.pass t p := h
theorem Lane.z.put (h : a.z) (m : Msg) : (a.put m).z := ⟨fun h0 => by simp [Lane.put] at h0, h.2⟩
theorem Lane.z.took (a : Lane) (r : List Msg) : (a.took r).z := ⟨fun _ => rfl, Nat.zero_le _⟩
theorem Lane.z.pass (h : a.z) (hp : a.p < 1000000) : a.pass.z := ⟨fun h0 => by
 unfold Lane.pass at h0 ⊢
 show (if a.l.length = 0 then a.p else a.p + 1) = 0
 rw [if_pos h0]
 exact h.1 h0, by
 show (if a.l.length = 0 then a.p else a.p + 1) ≤ 1000000
 split <;> omega⟩
theorem Lane.z.new (c : Nat) : (Lane.new c).z := ⟨fun _ => rfl, Nat.zero_le _⟩
theorem LnOk.new (c : Nat) (G : List (Option Addr × Nat × Nat × TypeId × List Value)) : LnOk G (Lane.new c) := fun m h => by simp [Lane.new] at h
theorem tk_cases (a0 a1 a2 : Lane) : tkN a0 a1 a2 = 0 ∨ tkN a0 a1 a2 = 1 ∨ tkN a0 a1 a2 = 2 ∨ tkN a0 a1 a2 = 3 := by
 unfold tkN
 repeat' split
 all_goals omega
theorem tk_len (h : tkN a0 a1 a2 = i) : (i = 0 → a0.l.length ≠ 0) ∧ (i = 1 → a1.l.length ≠ 0) ∧ (i = 2 → a2.l.length ≠ 0) ∧ (i = 3 → a0.l.length = 0 ∧ a1.l.length = 0 ∧ a2.l.length = 0) := by
 unfold tkN at h
 repeat' split at h
 all_goals omega
theorem pass_p (a : Lane) : a.pass.p = if a.l.length = 0 then a.p else a.p + 1 := rfl
theorem pass_le (a : Lane) : a.pass.p ≤ a.p + 1 := by rw [pass_p]; split <;> omega
theorem W3.swap {x y z : Lane} (h : W3 i x y z) : W3 i x z y := ⟨h.1, h.2.1, h.2.2.1, fun e => (h.2.2.2.1 e).symm, fun e => (h.2.2.2.2 e).symm⟩
theorem W3.step {x y z : Lane} (h : W3 i x y z) (hA : 4 ≤ i → 4 ≤ y.p) : W3 (i + 1) x.pass (y.took r0) z.pass ∧ i < 6 := by
 obtain ⟨h1, h2, h3, h4, h5⟩ := h
 have hi : i < 6 := by
   refine Nat.lt_of_le_of_ne h3 fun e => ?_
   have a := (h5 e).1
   have b := hA (by omega)
   omega
 have hz := pass_le z
 refine ⟨⟨h1, ?_, hi, fun _ => .inl rfl, fun e => ⟨Nat.zero_le _, ?_⟩⟩, hi⟩
 · rw [pass_p, if_neg h1, h2]
 · rcases h4 (by omega) with e | e
   · have b := hA (by omega)
     omega
   · omega
theorem put_len (a : Lane) (m : Msg) : (a.put m).l.length = a.l.length + 1 := by simp [Lane.put]
end
set_option maxHeartbeats 4000000 in
theorem lives_calls (w : World) : Calls Try.prog 6 #[] w fun e w' => e = .returned (.bool true) ∧ Hp w [] [] w' := by
 refine calls_G (args := []) Try.func6 rfl Try.ntmps6 rfl ?_
 intro Q0 hRet hNor hPan
 have H := Hp.start w
 have H : Hp w [] [] w := H
 refine G.seqK fun K1 hK2 => ?_
 refine G.region ?_
 refine GL.run (j := 1) 1 [] [] (by kernel_rfl) rfl ?_
 refine GL.k rfl hK2 (fun _ _ h => h) ?_
 refine G.seqK fun K3 hK4 => ?_
 refine G.region ?_
 refine GL.call (j := 1) (New_calls 2 w (by omega) (by omega)) (by kernel_rfl) rfl (fun e_ w9 hR => ?_)
 obtain ⟨d5, c6, c7, c8, rfl, H11⟩ := hR
 have H10 : Hp w [] [.blk d5 [.chan (some (Lane.new c6).ch), .chan (some (Lane.new c7).ch), .chan (some (Lane.new c8).ch), .int .i64 (((Lane.new c6).p : Nat) : Int), .int .i64 (((Lane.new c7).p : Nat) : Int), .int .i64 (((Lane.new c8).p : Nat) : Int), .bool false] 52, .obj (Lane.new c6).ch (chO 2 (Lane.new c6).l false (Lane.new c6).s (Lane.new c6).r), .obj (Lane.new c7).ch (chO 2 (Lane.new c7).l false (Lane.new c7).s (Lane.new c7).r), .obj (Lane.new c8).ch (chO 2 (Lane.new c8).l false (Lane.new c8).s (Lane.new c8).r), .bag []] w9 := H.callNew H11
 refine ⟨_, rfl, [12], [(12, .tuple #[pt d5 0, .int .i64 0])], by kernel_rfl, ?_⟩
 refine GL.run (j := 6) 5 [1, 2] [(1, pt d5 0), (2, .int .i64 0)] (by kernel_rfl) rfl ?_
 refine GL.k rfl hK4 (fun _ _ h => h) ?_
 refine G.seqK fun K12 hK13 => ?_
 refine G.region ?_
 refine GL.run (j := 1) 1 [1, 2, 15] [(1, pt d5 0), (2, .int .i64 0), (15, pt d5 0)] (by kernel_rfl) rfl ?_
 obtain ⟨p14, w15, r16, H17⟩ := H10.made (P := Try.prog) (Instr.buildSlice 22 1 #[(0, .int .u8 97)]) (fun b_ => .slice (some ⟨b_, 0, none⟩) 1 1) [.int .u8 97] 5 (by kernel_rfl)
 have H17 : Hp w [] [.blk d5 [.chan (some (Lane.new c6).ch), .chan (some (Lane.new c7).ch), .chan (some (Lane.new c8).ch), .int .i64 (((Lane.new c6).p : Nat) : Int), .int .i64 (((Lane.new c7).p : Nat) : Int), .int .i64 (((Lane.new c8).p : Nat) : Int), .bool false] 52, .obj (Lane.new c6).ch (chO 2 (Lane.new c6).l false (Lane.new c6).s (Lane.new c6).r), .obj (Lane.new c7).ch (chO 2 (Lane.new c7).l false (Lane.new c7).s (Lane.new c7).r), .obj (Lane.new c8).ch (chO 2 (Lane.new c8).l false (Lane.new c8).s (Lane.new c8).r), .bag [], .blk p14 [.int .u8 97] 5] w15 := H17
 refine GL.sem (j := 2) (r16) [1, 2, 15, 16] [(1, pt d5 0), (2, .int .i64 0), (15, pt d5 0), (16, .slice (some ⟨p14, 0, none⟩) 1 1)] (by kernel_rfl) (by kernel_rfl) rfl ?_
 obtain ⟨w18, r19, H20⟩ := H17.mark (P := Try.prog) (o := 0) (T := 22) (n := 1) (c := 1) 5 rfl (by kernel_rfl)
 have H20 : Hp w [] [.blk d5 [.chan (some (Lane.new c6).ch), .chan (some (Lane.new c7).ch), .chan (some (Lane.new c8).ch), .int .i64 (((Lane.new c6).p : Nat) : Int), .int .i64 (((Lane.new c7).p : Nat) : Int), .int .i64 (((Lane.new c8).p : Nat) : Int), .bool false] 52, .obj (Lane.new c6).ch (chO 2 (Lane.new c6).l false (Lane.new c6).s (Lane.new c6).r), .obj (Lane.new c7).ch (chO 2 (Lane.new c7).l false (Lane.new c7).s (Lane.new c7).r), .obj (Lane.new c8).ch (chO 2 (Lane.new c8).l false (Lane.new c8).s (Lane.new c8).r), .bag [], .blk p14 [.int .u8 97] 5] w18 := H20
 refine GL.sem (j := 3) (r19) [1, 2, 15, 17] [(1, pt d5 0), (2, .int .i64 0), (15, pt d5 0), (17, .slice (some ⟨p14, 0, none⟩) 1 1)] (by kernel_rfl) (by kernel_rfl) rfl ?_
 refine GL.call (j := 4) (PutOk1_calls (ids [.blk d5 [.chan (some (Lane.new c6).ch), .chan (some (Lane.new c7).ch), .chan (some (Lane.new c8).ch), .int .i64 (((Lane.new c6).p : Nat) : Int), .int .i64 (((Lane.new c7).p : Nat) : Int), .int .i64 (((Lane.new c8).p : Nat) : Int), .bool false] 52, .obj (Lane.new c6).ch (chO 2 (Lane.new c6).l false (Lane.new c6).s (Lane.new c6).r), .obj (Lane.new c7).ch (chO 2 (Lane.new c7).l false (Lane.new c7).s (Lane.new c7).r), .obj (Lane.new c8).ch (chO 2 (Lane.new c8).l false (Lane.new c8).s (Lane.new c8).r), .bag []]) d5 2 (Lane.new c6) (Lane.new c7) (Lane.new c8) [] (some ⟨p14, 0, none⟩) ([97] : List UInt8) 1 w18 (Hp.startL (A := [.blk d5 [.chan (some (Lane.new c6).ch), .chan (some (Lane.new c7).ch), .chan (some (Lane.new c8).ch), .int .i64 (((Lane.new c6).p : Nat) : Int), .int .i64 (((Lane.new c7).p : Nat) : Int), .int .i64 (((Lane.new c8).p : Nat) : Int), .bool false] 52, .obj (Lane.new c6).ch (chO 2 (Lane.new c6).l false (Lane.new c6).s (Lane.new c6).r), .obj (Lane.new c7).ch (chO 2 (Lane.new c7).l false (Lane.new c7).s (Lane.new c7).r), .obj (Lane.new c8).ch (chO 2 (Lane.new c8).l false (Lane.new c8).s (Lane.new c8).r), .bag []]) (B := [.blk p14 [.int .u8 97] 5]) H20) (RdO.blk (A' := [.blk d5 [.chan (some (Lane.new c6).ch), .chan (some (Lane.new c7).ch), .chan (some (Lane.new c8).ch), .int .i64 (((Lane.new c6).p : Nat) : Int), .int .i64 (((Lane.new c7).p : Nat) : Int), .int .i64 (((Lane.new c8).p : Nat) : Int), .bool false] 52, .obj (Lane.new c6).ch (chO 2 (Lane.new c6).l false (Lane.new c6).s (Lane.new c6).r), .obj (Lane.new c7).ch (chO 2 (Lane.new c7).l false (Lane.new c7).s (Lane.new c7).r), .obj (Lane.new c8).ch (chO 2 (Lane.new c8).l false (Lane.new c8).s (Lane.new c8).r), .bag []]) (B' := [.blk p14 [.int .u8 97] 5]) H20 0 1 rfl rfl) (by show (0 : Nat) < 2; decide) (by decide)) (by kernel_rfl) rfl (fun e_ w23 hR => ?_)
 obtain ⟨A21, c22, rfl, H25⟩ := hR
 have H24 : Hp w [] [.blk d5 [.chan (some (Lane.new c6).ch), .chan (some ((Lane.new c7).put (Msg.mk A21 ([97] : List UInt8) c22)).ch), .chan (some (Lane.new c8).ch), .int .i64 (((Lane.new c6).p : Nat) : Int), .int .i64 ((((Lane.new c7).put (Msg.mk A21 ([97] : List UInt8) c22)).p : Nat) : Int), .int .i64 (((Lane.new c8).p : Nat) : Int), .bool false] 52, .obj (Lane.new c6).ch (chO 2 (Lane.new c6).l false (Lane.new c6).s (Lane.new c6).r), .obj ((Lane.new c7).put (Msg.mk A21 ([97] : List UInt8) c22)).ch (chO 2 ((Lane.new c7).put (Msg.mk A21 ([97] : List UInt8) c22)).l false ((Lane.new c7).put (Msg.mk A21 ([97] : List UInt8) c22)).s ((Lane.new c7).put (Msg.mk A21 ([97] : List UInt8) c22)).r), .obj (Lane.new c8).ch (chO 2 (Lane.new c8).l false (Lane.new c8).s (Lane.new c8).r), .bag ((A21, ([97] : List UInt8).length, c22, 5, by8 ([97] : List UInt8)) :: []), .blk p14 [.int .u8 97] 5] w23 := Hp.callL (A := [.blk d5 [.chan (some (Lane.new c6).ch), .chan (some (Lane.new c7).ch), .chan (some (Lane.new c8).ch), .int .i64 (((Lane.new c6).p : Nat) : Int), .int .i64 (((Lane.new c7).p : Nat) : Int), .int .i64 (((Lane.new c8).p : Nat) : Int), .bool false] 52, .obj (Lane.new c6).ch (chO 2 (Lane.new c6).l false (Lane.new c6).s (Lane.new c6).r), .obj (Lane.new c7).ch (chO 2 (Lane.new c7).l false (Lane.new c7).s (Lane.new c7).r), .obj (Lane.new c8).ch (chO 2 (Lane.new c8).l false (Lane.new c8).s (Lane.new c8).r), .bag []]) (B := [.blk p14 [.int .u8 97] 5]) H20 H25
 refine ⟨_, rfl, [1, 2, 18], [(1, pt d5 0), (2, .int .i64 0), (18, .int .i64 0)], by kernel_rfl, ?_⟩
 refine GL.run (j := 5) 1 [1, 2, 3] [(1, pt d5 0), (2, .int .i64 0), (3, .int .i64 0)] (by kernel_rfl) rfl ?_
 refine GL.k rfl hK13 (fun _ _ h => h) ?_
 refine G.seqK fun K26 hK27 => ?_
 refine G.region ?_
 refine GL.run (j := 1) 1 [1, 2, 3, 19] [(1, pt d5 0), (2, .int .i64 0), (3, .int .i64 0), (19, pt d5 0)] (by kernel_rfl) rfl ?_
 obtain ⟨p28, w29, r30, H31⟩ := H24.made (P := Try.prog) (Instr.buildSlice 22 1 #[(0, .int .u8 98)]) (fun b_ => .slice (some ⟨b_, 0, none⟩) 1 1) [.int .u8 98] 5 (by kernel_rfl)
 have H31 : Hp w [] [.blk d5 [.chan (some (Lane.new c6).ch), .chan (some ((Lane.new c7).put (Msg.mk A21 ([97] : List UInt8) c22)).ch), .chan (some (Lane.new c8).ch), .int .i64 (((Lane.new c6).p : Nat) : Int), .int .i64 ((((Lane.new c7).put (Msg.mk A21 ([97] : List UInt8) c22)).p : Nat) : Int), .int .i64 (((Lane.new c8).p : Nat) : Int), .bool false] 52, .obj (Lane.new c6).ch (chO 2 (Lane.new c6).l false (Lane.new c6).s (Lane.new c6).r), .obj ((Lane.new c7).put (Msg.mk A21 ([97] : List UInt8) c22)).ch (chO 2 ((Lane.new c7).put (Msg.mk A21 ([97] : List UInt8) c22)).l false ((Lane.new c7).put (Msg.mk A21 ([97] : List UInt8) c22)).s ((Lane.new c7).put (Msg.mk A21 ([97] : List UInt8) c22)).r), .obj (Lane.new c8).ch (chO 2 (Lane.new c8).l false (Lane.new c8).s (Lane.new c8).r), .bag ((A21, ([97] : List UInt8).length, c22, 5, by8 ([97] : List UInt8)) :: []), .blk p14 [.int .u8 97] 5, .blk p28 [.int .u8 98] 5] w29 := H31
 refine GL.sem (j := 2) (r30) [1, 2, 3, 19, 20] [(1, pt d5 0), (2, .int .i64 0), (3, .int .i64 0), (19, pt d5 0), (20, .slice (some ⟨p28, 0, none⟩) 1 1)] (by kernel_rfl) (by kernel_rfl) rfl ?_
 obtain ⟨w32, r33, H34⟩ := H31.mark (P := Try.prog) (o := 0) (T := 22) (n := 1) (c := 1) 6 rfl (by kernel_rfl)
 have H34 : Hp w [] [.blk d5 [.chan (some (Lane.new c6).ch), .chan (some ((Lane.new c7).put (Msg.mk A21 ([97] : List UInt8) c22)).ch), .chan (some (Lane.new c8).ch), .int .i64 (((Lane.new c6).p : Nat) : Int), .int .i64 ((((Lane.new c7).put (Msg.mk A21 ([97] : List UInt8) c22)).p : Nat) : Int), .int .i64 (((Lane.new c8).p : Nat) : Int), .bool false] 52, .obj (Lane.new c6).ch (chO 2 (Lane.new c6).l false (Lane.new c6).s (Lane.new c6).r), .obj ((Lane.new c7).put (Msg.mk A21 ([97] : List UInt8) c22)).ch (chO 2 ((Lane.new c7).put (Msg.mk A21 ([97] : List UInt8) c22)).l false ((Lane.new c7).put (Msg.mk A21 ([97] : List UInt8) c22)).s ((Lane.new c7).put (Msg.mk A21 ([97] : List UInt8) c22)).r), .obj (Lane.new c8).ch (chO 2 (Lane.new c8).l false (Lane.new c8).s (Lane.new c8).r), .bag ((A21, ([97] : List UInt8).length, c22, 5, by8 ([97] : List UInt8)) :: []), .blk p14 [.int .u8 97] 5, .blk p28 [.int .u8 98] 5] w32 := H34
 refine GL.sem (j := 3) (r33) [1, 2, 3, 19, 21] [(1, pt d5 0), (2, .int .i64 0), (3, .int .i64 0), (19, pt d5 0), (21, .slice (some ⟨p28, 0, none⟩) 1 1)] (by kernel_rfl) (by kernel_rfl) rfl ?_
 refine GL.call (j := 4) (PutOk0_calls (ids [.blk d5 [.chan (some (Lane.new c6).ch), .chan (some ((Lane.new c7).put (Msg.mk A21 ([97] : List UInt8) c22)).ch), .chan (some (Lane.new c8).ch), .int .i64 (((Lane.new c6).p : Nat) : Int), .int .i64 ((((Lane.new c7).put (Msg.mk A21 ([97] : List UInt8) c22)).p : Nat) : Int), .int .i64 (((Lane.new c8).p : Nat) : Int), .bool false] 52, .obj (Lane.new c6).ch (chO 2 (Lane.new c6).l false (Lane.new c6).s (Lane.new c6).r), .obj ((Lane.new c7).put (Msg.mk A21 ([97] : List UInt8) c22)).ch (chO 2 ((Lane.new c7).put (Msg.mk A21 ([97] : List UInt8) c22)).l false ((Lane.new c7).put (Msg.mk A21 ([97] : List UInt8) c22)).s ((Lane.new c7).put (Msg.mk A21 ([97] : List UInt8) c22)).r), .obj (Lane.new c8).ch (chO 2 (Lane.new c8).l false (Lane.new c8).s (Lane.new c8).r), .bag ((A21, ([97] : List UInt8).length, c22, 5, by8 ([97] : List UInt8)) :: [])]) d5 2 (Lane.new c6) ((Lane.new c7).put (Msg.mk A21 ([97] : List UInt8) c22)) (Lane.new c8) ((A21, ([97] : List UInt8).length, c22, 5, by8 ([97] : List UInt8)) :: []) (some ⟨p28, 0, none⟩) ([98] : List UInt8) 1 w32 (Hp.startL (A := [.blk d5 [.chan (some (Lane.new c6).ch), .chan (some ((Lane.new c7).put (Msg.mk A21 ([97] : List UInt8) c22)).ch), .chan (some (Lane.new c8).ch), .int .i64 (((Lane.new c6).p : Nat) : Int), .int .i64 ((((Lane.new c7).put (Msg.mk A21 ([97] : List UInt8) c22)).p : Nat) : Int), .int .i64 (((Lane.new c8).p : Nat) : Int), .bool false] 52, .obj (Lane.new c6).ch (chO 2 (Lane.new c6).l false (Lane.new c6).s (Lane.new c6).r), .obj ((Lane.new c7).put (Msg.mk A21 ([97] : List UInt8) c22)).ch (chO 2 ((Lane.new c7).put (Msg.mk A21 ([97] : List UInt8) c22)).l false ((Lane.new c7).put (Msg.mk A21 ([97] : List UInt8) c22)).s ((Lane.new c7).put (Msg.mk A21 ([97] : List UInt8) c22)).r), .obj (Lane.new c8).ch (chO 2 (Lane.new c8).l false (Lane.new c8).s (Lane.new c8).r), .bag ((A21, ([97] : List UInt8).length, c22, 5, by8 ([97] : List UInt8)) :: [])]) (B := [.blk p14 [.int .u8 97] 5, .blk p28 [.int .u8 98] 5]) H34) (RdO.blk (A' := [.blk d5 [.chan (some (Lane.new c6).ch), .chan (some ((Lane.new c7).put (Msg.mk A21 ([97] : List UInt8) c22)).ch), .chan (some (Lane.new c8).ch), .int .i64 (((Lane.new c6).p : Nat) : Int), .int .i64 ((((Lane.new c7).put (Msg.mk A21 ([97] : List UInt8) c22)).p : Nat) : Int), .int .i64 (((Lane.new c8).p : Nat) : Int), .bool false] 52, .obj (Lane.new c6).ch (chO 2 (Lane.new c6).l false (Lane.new c6).s (Lane.new c6).r), .obj ((Lane.new c7).put (Msg.mk A21 ([97] : List UInt8) c22)).ch (chO 2 ((Lane.new c7).put (Msg.mk A21 ([97] : List UInt8) c22)).l false ((Lane.new c7).put (Msg.mk A21 ([97] : List UInt8) c22)).s ((Lane.new c7).put (Msg.mk A21 ([97] : List UInt8) c22)).r), .obj (Lane.new c8).ch (chO 2 (Lane.new c8).l false (Lane.new c8).s (Lane.new c8).r), .bag ((A21, ([97] : List UInt8).length, c22, 5, by8 ([97] : List UInt8)) :: [])]) (B' := [.blk p14 [.int .u8 97] 5, .blk p28 [.int .u8 98] 5]) H34 1 1 rfl rfl) (by show (0 : Nat) < 2; decide) (by decide)) (by kernel_rfl) rfl (fun e_ w37 hR => ?_)
 obtain ⟨A35, c36, rfl, H39⟩ := hR
 have H38 : Hp w [] [.blk d5 [.chan (some ((Lane.new c6).put (Msg.mk A35 ([98] : List UInt8) c36)).ch), .chan (some ((Lane.new c7).put (Msg.mk A21 ([97] : List UInt8) c22)).ch), .chan (some (Lane.new c8).ch), .int .i64 ((((Lane.new c6).put (Msg.mk A35 ([98] : List UInt8) c36)).p : Nat) : Int), .int .i64 ((((Lane.new c7).put (Msg.mk A21 ([97] : List UInt8) c22)).p : Nat) : Int), .int .i64 (((Lane.new c8).p : Nat) : Int), .bool false] 52, .obj ((Lane.new c6).put (Msg.mk A35 ([98] : List UInt8) c36)).ch (chO 2 ((Lane.new c6).put (Msg.mk A35 ([98] : List UInt8) c36)).l false ((Lane.new c6).put (Msg.mk A35 ([98] : List UInt8) c36)).s ((Lane.new c6).put (Msg.mk A35 ([98] : List UInt8) c36)).r), .obj ((Lane.new c7).put (Msg.mk A21 ([97] : List UInt8) c22)).ch (chO 2 ((Lane.new c7).put (Msg.mk A21 ([97] : List UInt8) c22)).l false ((Lane.new c7).put (Msg.mk A21 ([97] : List UInt8) c22)).s ((Lane.new c7).put (Msg.mk A21 ([97] : List UInt8) c22)).r), .obj (Lane.new c8).ch (chO 2 (Lane.new c8).l false (Lane.new c8).s (Lane.new c8).r), .bag ((A35, ([98] : List UInt8).length, c36, 5, by8 ([98] : List UInt8)) :: ((A21, ([97] : List UInt8).length, c22, 5, by8 ([97] : List UInt8)) :: [])), .blk p14 [.int .u8 97] 5, .blk p28 [.int .u8 98] 5] w37 := Hp.callL (A := [.blk d5 [.chan (some (Lane.new c6).ch), .chan (some ((Lane.new c7).put (Msg.mk A21 ([97] : List UInt8) c22)).ch), .chan (some (Lane.new c8).ch), .int .i64 (((Lane.new c6).p : Nat) : Int), .int .i64 ((((Lane.new c7).put (Msg.mk A21 ([97] : List UInt8) c22)).p : Nat) : Int), .int .i64 (((Lane.new c8).p : Nat) : Int), .bool false] 52, .obj (Lane.new c6).ch (chO 2 (Lane.new c6).l false (Lane.new c6).s (Lane.new c6).r), .obj ((Lane.new c7).put (Msg.mk A21 ([97] : List UInt8) c22)).ch (chO 2 ((Lane.new c7).put (Msg.mk A21 ([97] : List UInt8) c22)).l false ((Lane.new c7).put (Msg.mk A21 ([97] : List UInt8) c22)).s ((Lane.new c7).put (Msg.mk A21 ([97] : List UInt8) c22)).r), .obj (Lane.new c8).ch (chO 2 (Lane.new c8).l false (Lane.new c8).s (Lane.new c8).r), .bag ((A21, ([97] : List UInt8).length, c22, 5, by8 ([97] : List UInt8)) :: [])]) (B := [.blk p14 [.int .u8 97] 5, .blk p28 [.int .u8 98] 5]) H34 H39
 refine ⟨_, rfl, [1, 2, 3, 22], [(1, pt d5 0), (2, .int .i64 0), (3, .int .i64 0), (22, .int .i64 0)], by kernel_rfl, ?_⟩
 refine GL.run (j := 5) 1 [1, 2, 3, 4] [(1, pt d5 0), (2, .int .i64 0), (3, .int .i64 0), (4, .int .i64 0)] (by kernel_rfl) rfl ?_
 refine GL.k rfl hK27 (fun _ _ h => h) ?_
 refine G.seqK fun K40 hK41 => ?_
 refine G.region ?_
 have htk42 : tkN ((Lane.new c6).put (Msg.mk A35 ([98] : List UInt8) c36)) ((Lane.new c7).put (Msg.mk A21 ([97] : List UInt8) c22)) (Lane.new c8) = 0 := by rfl
 have hlk43 : ((Lane.new c6).put (Msg.mk A35 ([98] : List UInt8) c36)).l = (Msg.mk A35 ([98] : List UInt8) c36) :: [] := rfl
 have := 0
 · skip
   refine GL.run (j := 1) 1 [1, 2, 3, 4, 24] [(1, pt d5 0), (2, .int .i64 0), (3, .int .i64 0), (4, .int .i64 0), (24, pt d5 0)] (by kernel_rfl) rfl ?_
   have hmhlk43 := (LnOk.took (G := ((A35, ([98] : List UInt8).length, c36, 5, by8 ([98] : List UInt8)) :: ((A21, ([97] : List UInt8).length, c22, 5, by8 ([97] : List UInt8)) :: []))) (a := ((Lane.new c6).put (Msg.mk A35 ([98] : List UInt8) c36))) (LnOk.put (LnOk.more (LnOk.new _ _) _) (Msg.mk A35 ([98] : List UInt8) c36)) hlk43).2
   refine GL.call (j := 2) (Take0_calls (ids [.blk d5 [.chan (some ((Lane.new c6).put (Msg.mk A35 ([98] : List UInt8) c36)).ch), .chan (some ((Lane.new c7).put (Msg.mk A21 ([97] : List UInt8) c22)).ch), .chan (some (Lane.new c8).ch), .int .i64 ((((Lane.new c6).put (Msg.mk A35 ([98] : List UInt8) c36)).p : Nat) : Int), .int .i64 ((((Lane.new c7).put (Msg.mk A21 ([97] : List UInt8) c22)).p : Nat) : Int), .int .i64 (((Lane.new c8).p : Nat) : Int), .bool false] 52, .obj ((Lane.new c6).put (Msg.mk A35 ([98] : List UInt8) c36)).ch (chO 2 ((Lane.new c6).put (Msg.mk A35 ([98] : List UInt8) c36)).l false ((Lane.new c6).put (Msg.mk A35 ([98] : List UInt8) c36)).s ((Lane.new c6).put (Msg.mk A35 ([98] : List UInt8) c36)).r), .obj ((Lane.new c7).put (Msg.mk A21 ([97] : List UInt8) c22)).ch (chO 2 ((Lane.new c7).put (Msg.mk A21 ([97] : List UInt8) c22)).l false ((Lane.new c7).put (Msg.mk A21 ([97] : List UInt8) c22)).s ((Lane.new c7).put (Msg.mk A21 ([97] : List UInt8) c22)).r), .obj (Lane.new c8).ch (chO 2 (Lane.new c8).l false (Lane.new c8).s (Lane.new c8).r), .bag ((A35, ([98] : List UInt8).length, c36, 5, by8 ([98] : List UInt8)) :: ((A21, ([97] : List UInt8).length, c22, 5, by8 ([97] : List UInt8)) :: []))]) d5 2 false ((Lane.new c6).put (Msg.mk A35 ([98] : List UInt8) c36)) ((Lane.new c7).put (Msg.mk A21 ([97] : List UInt8) c22)) (Lane.new c8) ((A35, ([98] : List UInt8).length, c36, 5, by8 ([98] : List UInt8)) :: ((A21, ([97] : List UInt8).length, c22, 5, by8 ([97] : List UInt8)) :: [])) (Msg.mk A35 ([98] : List UInt8) c36) [] w37 (Hp.startL (A := [.blk d5 [.chan (some ((Lane.new c6).put (Msg.mk A35 ([98] : List UInt8) c36)).ch), .chan (some ((Lane.new c7).put (Msg.mk A21 ([97] : List UInt8) c22)).ch), .chan (some (Lane.new c8).ch), .int .i64 ((((Lane.new c6).put (Msg.mk A35 ([98] : List UInt8) c36)).p : Nat) : Int), .int .i64 ((((Lane.new c7).put (Msg.mk A21 ([97] : List UInt8) c22)).p : Nat) : Int), .int .i64 (((Lane.new c8).p : Nat) : Int), .bool false] 52, .obj ((Lane.new c6).put (Msg.mk A35 ([98] : List UInt8) c36)).ch (chO 2 ((Lane.new c6).put (Msg.mk A35 ([98] : List UInt8) c36)).l false ((Lane.new c6).put (Msg.mk A35 ([98] : List UInt8) c36)).s ((Lane.new c6).put (Msg.mk A35 ([98] : List UInt8) c36)).r), .obj ((Lane.new c7).put (Msg.mk A21 ([97] : List UInt8) c22)).ch (chO 2 ((Lane.new c7).put (Msg.mk A21 ([97] : List UInt8) c22)).l false ((Lane.new c7).put (Msg.mk A21 ([97] : List UInt8) c22)).s ((Lane.new c7).put (Msg.mk A21 ([97] : List UInt8) c22)).r), .obj (Lane.new c8).ch (chO 2 (Lane.new c8).l false (Lane.new c8).s (Lane.new c8).r), .bag ((A35, ([98] : List UInt8).length, c36, 5, by8 ([98] : List UInt8)) :: ((A21, ([97] : List UInt8).length, c22, 5, by8 ([97] : List UInt8)) :: []))]) (B := [.blk p14 [.int .u8 97] 5, .blk p28 [.int .u8 98] 5]) H38) (Lane.z.put (Lane.z.new _) (Msg.mk A35 ([98] : List UInt8) c36)) (Lane.z.put (Lane.z.new _) (Msg.mk A21 ([97] : List UInt8) c22)) (Lane.z.new _) htk42 hlk43) (by kernel_rfl) rfl (fun e_ w44 hR => ?_)
   obtain ⟨rfl, H46⟩ := hR
   have H45 : Hp w [] [.blk d5 [.chan (some (((Lane.new c6).put (Msg.mk A35 ([98] : List UInt8) c36)).took []).ch), .chan (some ((Lane.new c7).put (Msg.mk A21 ([97] : List UInt8) c22)).pass.ch), .chan (some (Lane.new c8).pass.ch), .int .i64 (((((Lane.new c6).put (Msg.mk A35 ([98] : List UInt8) c36)).took []).p : Nat) : Int), .int .i64 ((((Lane.new c7).put (Msg.mk A21 ([97] : List UInt8) c22)).pass.p : Nat) : Int), .int .i64 (((Lane.new c8).pass.p : Nat) : Int), .bool false] 52, .obj (((Lane.new c6).put (Msg.mk A35 ([98] : List UInt8) c36)).took []).ch (chO 2 (((Lane.new c6).put (Msg.mk A35 ([98] : List UInt8) c36)).took []).l false (((Lane.new c6).put (Msg.mk A35 ([98] : List UInt8) c36)).took []).s (((Lane.new c6).put (Msg.mk A35 ([98] : List UInt8) c36)).took []).r), .obj ((Lane.new c7).put (Msg.mk A21 ([97] : List UInt8) c22)).pass.ch (chO 2 ((Lane.new c7).put (Msg.mk A21 ([97] : List UInt8) c22)).pass.l false ((Lane.new c7).put (Msg.mk A21 ([97] : List UInt8) c22)).pass.s ((Lane.new c7).put (Msg.mk A21 ([97] : List UInt8) c22)).pass.r), .obj (Lane.new c8).pass.ch (chO 2 (Lane.new c8).pass.l false (Lane.new c8).pass.s (Lane.new c8).pass.r), .bag ((A35, ([98] : List UInt8).length, c36, 5, by8 ([98] : List UInt8)) :: ((A21, ([97] : List UInt8).length, c22, 5, by8 ([97] : List UInt8)) :: [])), .blk p14 [.int .u8 97] 5, .blk p28 [.int .u8 98] 5] w44 := Hp.callL (A := [.blk d5 [.chan (some ((Lane.new c6).put (Msg.mk A35 ([98] : List UInt8) c36)).ch), .chan (some ((Lane.new c7).put (Msg.mk A21 ([97] : List UInt8) c22)).ch), .chan (some (Lane.new c8).ch), .int .i64 ((((Lane.new c6).put (Msg.mk A35 ([98] : List UInt8) c36)).p : Nat) : Int), .int .i64 ((((Lane.new c7).put (Msg.mk A21 ([97] : List UInt8) c22)).p : Nat) : Int), .int .i64 (((Lane.new c8).p : Nat) : Int), .bool false] 52, .obj ((Lane.new c6).put (Msg.mk A35 ([98] : List UInt8) c36)).ch (chO 2 ((Lane.new c6).put (Msg.mk A35 ([98] : List UInt8) c36)).l false ((Lane.new c6).put (Msg.mk A35 ([98] : List UInt8) c36)).s ((Lane.new c6).put (Msg.mk A35 ([98] : List UInt8) c36)).r), .obj ((Lane.new c7).put (Msg.mk A21 ([97] : List UInt8) c22)).ch (chO 2 ((Lane.new c7).put (Msg.mk A21 ([97] : List UInt8) c22)).l false ((Lane.new c7).put (Msg.mk A21 ([97] : List UInt8) c22)).s ((Lane.new c7).put (Msg.mk A21 ([97] : List UInt8) c22)).r), .obj (Lane.new c8).ch (chO 2 (Lane.new c8).l false (Lane.new c8).s (Lane.new c8).r), .bag ((A35, ([98] : List UInt8).length, c36, 5, by8 ([98] : List UInt8)) :: ((A21, ([97] : List UInt8).length, c22, 5, by8 ([97] : List UInt8)) :: []))]) (B := [.blk p14 [.int .u8 97] 5, .blk p28 [.int .u8 98] 5]) H38 H46
   refine ⟨_, rfl, [1, 2, 3, 4, 25], [(1, pt d5 0), (2, .int .i64 0), (3, .int .i64 0), (4, .int .i64 0), (25, .tuple #[.slice A35 1 c36, .int .i64 0, .bool true])], by kernel_rfl, ?_⟩
   refine GL.run (j := 9) 7 [1, 2, 3, 4, 5, 6, 7] [(1, pt d5 0), (2, .int .i64 0), (3, .int .i64 0), (4, .int .i64 0), (5, .slice A35 1 c36), (6, .int .i64 0), (7, .bool true)] (by kernel_rfl) rfl ?_
   refine GL.k rfl hK41 (fun _ _ h => h) ?_
   refine G.seqK fun K47 hK48 => ?_
   refine G.region ?_
   have htk49 : tkN (((Lane.new c6).put (Msg.mk A35 ([98] : List UInt8) c36)).took []) ((Lane.new c7).put (Msg.mk A21 ([97] : List UInt8) c22)).pass (Lane.new c8).pass = 1 := by rfl
   have hlk50 : ((Lane.new c7).put (Msg.mk A21 ([97] : List UInt8) c22)).pass.l = (Msg.mk A21 ([97] : List UInt8) c22) :: [] := rfl
   have := 0
   · skip
     refine GL.run (j := 1) 1 [2, 3, 4, 5, 6, 7, 30] [(2, .int .i64 0), (3, .int .i64 0), (4, .int .i64 0), (5, .slice A35 1 c36), (6, .int .i64 0), (7, .bool true), (30, pt d5 0)] (by kernel_rfl) rfl ?_
     have hmhlk50 := (LnOk.took (G := ((A35, ([98] : List UInt8).length, c36, 5, by8 ([98] : List UInt8)) :: ((A21, ([97] : List UInt8).length, c22, 5, by8 ([97] : List UInt8)) :: []))) (a := ((Lane.new c7).put (Msg.mk A21 ([97] : List UInt8) c22)).pass) (LnOk.more (LnOk.put (LnOk.new _ _) (Msg.mk A21 ([97] : List UInt8) c22)) _) hlk50).2
     refine GL.call (j := 2) (Take1_calls (ids [.blk d5 [.chan (some (((Lane.new c6).put (Msg.mk A35 ([98] : List UInt8) c36)).took []).ch), .chan (some ((Lane.new c7).put (Msg.mk A21 ([97] : List UInt8) c22)).pass.ch), .chan (some (Lane.new c8).pass.ch), .int .i64 (((((Lane.new c6).put (Msg.mk A35 ([98] : List UInt8) c36)).took []).p : Nat) : Int), .int .i64 ((((Lane.new c7).put (Msg.mk A21 ([97] : List UInt8) c22)).pass.p : Nat) : Int), .int .i64 (((Lane.new c8).pass.p : Nat) : Int), .bool false] 52, .obj (((Lane.new c6).put (Msg.mk A35 ([98] : List UInt8) c36)).took []).ch (chO 2 (((Lane.new c6).put (Msg.mk A35 ([98] : List UInt8) c36)).took []).l false (((Lane.new c6).put (Msg.mk A35 ([98] : List UInt8) c36)).took []).s (((Lane.new c6).put (Msg.mk A35 ([98] : List UInt8) c36)).took []).r), .obj ((Lane.new c7).put (Msg.mk A21 ([97] : List UInt8) c22)).pass.ch (chO 2 ((Lane.new c7).put (Msg.mk A21 ([97] : List UInt8) c22)).pass.l false ((Lane.new c7).put (Msg.mk A21 ([97] : List UInt8) c22)).pass.s ((Lane.new c7).put (Msg.mk A21 ([97] : List UInt8) c22)).pass.r), .obj (Lane.new c8).pass.ch (chO 2 (Lane.new c8).pass.l false (Lane.new c8).pass.s (Lane.new c8).pass.r), .bag ((A35, ([98] : List UInt8).length, c36, 5, by8 ([98] : List UInt8)) :: ((A21, ([97] : List UInt8).length, c22, 5, by8 ([97] : List UInt8)) :: []))]) d5 2 false (((Lane.new c6).put (Msg.mk A35 ([98] : List UInt8) c36)).took []) ((Lane.new c7).put (Msg.mk A21 ([97] : List UInt8) c22)).pass (Lane.new c8).pass ((A35, ([98] : List UInt8).length, c36, 5, by8 ([98] : List UInt8)) :: ((A21, ([97] : List UInt8).length, c22, 5, by8 ([97] : List UInt8)) :: [])) (Msg.mk A21 ([97] : List UInt8) c22) [] w44 (Hp.startL (A := [.blk d5 [.chan (some (((Lane.new c6).put (Msg.mk A35 ([98] : List UInt8) c36)).took []).ch), .chan (some ((Lane.new c7).put (Msg.mk A21 ([97] : List UInt8) c22)).pass.ch), .chan (some (Lane.new c8).pass.ch), .int .i64 (((((Lane.new c6).put (Msg.mk A35 ([98] : List UInt8) c36)).took []).p : Nat) : Int), .int .i64 ((((Lane.new c7).put (Msg.mk A21 ([97] : List UInt8) c22)).pass.p : Nat) : Int), .int .i64 (((Lane.new c8).pass.p : Nat) : Int), .bool false] 52, .obj (((Lane.new c6).put (Msg.mk A35 ([98] : List UInt8) c36)).took []).ch (chO 2 (((Lane.new c6).put (Msg.mk A35 ([98] : List UInt8) c36)).took []).l false (((Lane.new c6).put (Msg.mk A35 ([98] : List UInt8) c36)).took []).s (((Lane.new c6).put (Msg.mk A35 ([98] : List UInt8) c36)).took []).r), .obj ((Lane.new c7).put (Msg.mk A21 ([97] : List UInt8) c22)).pass.ch (chO 2 ((Lane.new c7).put (Msg.mk A21 ([97] : List UInt8) c22)).pass.l false ((Lane.new c7).put (Msg.mk A21 ([97] : List UInt8) c22)).pass.s ((Lane.new c7).put (Msg.mk A21 ([97] : List UInt8) c22)).pass.r), .obj (Lane.new c8).pass.ch (chO 2 (Lane.new c8).pass.l false (Lane.new c8).pass.s (Lane.new c8).pass.r), .bag ((A35, ([98] : List UInt8).length, c36, 5, by8 ([98] : List UInt8)) :: ((A21, ([97] : List UInt8).length, c22, 5, by8 ([97] : List UInt8)) :: []))]) (B := [.blk p14 [.int .u8 97] 5, .blk p28 [.int .u8 98] 5]) H45) (Lane.z.took _ _) (Lane.z.pass (Lane.z.put (Lane.z.new _) (Msg.mk A21 ([97] : List UInt8) c22)) (by show (0 : Nat) < 1000000; decide)) (Lane.z.pass (Lane.z.new _) (by show (0 : Nat) < 1000000; decide)) htk49 hlk50) (by kernel_rfl) rfl (fun e_ w51 hR => ?_)
     obtain ⟨rfl, H53⟩ := hR
     have H52 : Hp w [] [.blk d5 [.chan (some (((Lane.new c6).put (Msg.mk A35 ([98] : List UInt8) c36)).took []).pass.ch), .chan (some (((Lane.new c7).put (Msg.mk A21 ([97] : List UInt8) c22)).pass.took []).ch), .chan (some (Lane.new c8).pass.pass.ch), .int .i64 (((((Lane.new c6).put (Msg.mk A35 ([98] : List UInt8) c36)).took []).pass.p : Nat) : Int), .int .i64 (((((Lane.new c7).put (Msg.mk A21 ([97] : List UInt8) c22)).pass.took []).p : Nat) : Int), .int .i64 (((Lane.new c8).pass.pass.p : Nat) : Int), .bool false] 52, .obj (((Lane.new c6).put (Msg.mk A35 ([98] : List UInt8) c36)).took []).pass.ch (chO 2 (((Lane.new c6).put (Msg.mk A35 ([98] : List UInt8) c36)).took []).pass.l false (((Lane.new c6).put (Msg.mk A35 ([98] : List UInt8) c36)).took []).pass.s (((Lane.new c6).put (Msg.mk A35 ([98] : List UInt8) c36)).took []).pass.r), .obj (((Lane.new c7).put (Msg.mk A21 ([97] : List UInt8) c22)).pass.took []).ch (chO 2 (((Lane.new c7).put (Msg.mk A21 ([97] : List UInt8) c22)).pass.took []).l false (((Lane.new c7).put (Msg.mk A21 ([97] : List UInt8) c22)).pass.took []).s (((Lane.new c7).put (Msg.mk A21 ([97] : List UInt8) c22)).pass.took []).r), .obj (Lane.new c8).pass.pass.ch (chO 2 (Lane.new c8).pass.pass.l false (Lane.new c8).pass.pass.s (Lane.new c8).pass.pass.r), .bag ((A35, ([98] : List UInt8).length, c36, 5, by8 ([98] : List UInt8)) :: ((A21, ([97] : List UInt8).length, c22, 5, by8 ([97] : List UInt8)) :: [])), .blk p14 [.int .u8 97] 5, .blk p28 [.int .u8 98] 5] w51 := Hp.callL (A := [.blk d5 [.chan (some (((Lane.new c6).put (Msg.mk A35 ([98] : List UInt8) c36)).took []).ch), .chan (some ((Lane.new c7).put (Msg.mk A21 ([97] : List UInt8) c22)).pass.ch), .chan (some (Lane.new c8).pass.ch), .int .i64 (((((Lane.new c6).put (Msg.mk A35 ([98] : List UInt8) c36)).took []).p : Nat) : Int), .int .i64 ((((Lane.new c7).put (Msg.mk A21 ([97] : List UInt8) c22)).pass.p : Nat) : Int), .int .i64 (((Lane.new c8).pass.p : Nat) : Int), .bool false] 52, .obj (((Lane.new c6).put (Msg.mk A35 ([98] : List UInt8) c36)).took []).ch (chO 2 (((Lane.new c6).put (Msg.mk A35 ([98] : List UInt8) c36)).took []).l false (((Lane.new c6).put (Msg.mk A35 ([98] : List UInt8) c36)).took []).s (((Lane.new c6).put (Msg.mk A35 ([98] : List UInt8) c36)).took []).r), .obj ((Lane.new c7).put (Msg.mk A21 ([97] : List UInt8) c22)).pass.ch (chO 2 ((Lane.new c7).put (Msg.mk A21 ([97] : List UInt8) c22)).pass.l false ((Lane.new c7).put (Msg.mk A21 ([97] : List UInt8) c22)).pass.s ((Lane.new c7).put (Msg.mk A21 ([97] : List UInt8) c22)).pass.r), .obj (Lane.new c8).pass.ch (chO 2 (Lane.new c8).pass.l false (Lane.new c8).pass.s (Lane.new c8).pass.r), .bag ((A35, ([98] : List UInt8).length, c36, 5, by8 ([98] : List UInt8)) :: ((A21, ([97] : List UInt8).length, c22, 5, by8 ([97] : List UInt8)) :: []))]) (B := [.blk p14 [.int .u8 97] 5, .blk p28 [.int .u8 98] 5]) H45 H53
     refine ⟨_, rfl, [2, 3, 4, 5, 6, 7, 31], [(2, .int .i64 0), (3, .int .i64 0), (4, .int .i64 0), (5, .slice A35 1 c36), (6, .int .i64 0), (7, .bool true), (31, .tuple #[.slice A21 1 c22, .int .i64 1, .bool true])], by kernel_rfl, ?_⟩
     refine GL.run (j := 9) 7 [2, 3, 4, 5, 6, 7, 8, 9, 10] [(2, .int .i64 0), (3, .int .i64 0), (4, .int .i64 0), (5, .slice A35 1 c36), (6, .int .i64 0), (7, .bool true), (8, .slice A21 1 c22), (9, .int .i64 1), (10, .bool true)] (by kernel_rfl) rfl ?_
     refine GL.k rfl hK48 (fun _ _ h => h) ?_
     refine G.seqK fun K54 hK55 => ?_
     refine G.region ?_
     refine GL.run (j := 26) 26 [8, 59, 60] [(8, .slice A21 1 c22), (59, .bool true), (60, .slice A35 1 c36)] (by kernel_rfl) rfl ?_
     refine GL.sem (j := 27) (run_toStr (P := Try.prog) (src := 22) (dst := 9) (A := A35) (bs := ([98] : List UInt8)) (n := 1) (c := c36) (by kernel_rfl) (by kernel_rfl) (H52.bagRd 4 rfl hmhlk43) (by first | rfl | omega | (simp only [List.length_cons, List.length_nil, List.length_drop, List.length_take, List.length_append] <;> omega))) [8, 59, 61] [(8, .slice A21 1 c22), (59, .bool true), (61, .string (strOf ([98] : List UInt8)))] (by kernel_rfl) (by kernel_rfl) rfl ?_
     refine GL.sem (j := 28) (run_str_eql (P := Try.prog) (t := 9) ([98] : List UInt8) ([98] : List UInt8) _) [8, 59, 62] [(8, .slice A21 1 c22), (59, .bool true), (62, .bool true)] (by kernel_rfl) (by kernel_rfl) rfl ?_
     refine GL.run (j := 31) 3 [64, 65] [(64, .bool true), (65, .slice A21 1 c22)] (by kernel_rfl) rfl ?_
     refine GL.sem (j := 32) (run_toStr (P := Try.prog) (src := 22) (dst := 9) (A := A21) (bs := ([97] : List UInt8)) (n := 1) (c := c22) (by kernel_rfl) (by kernel_rfl) (H52.bagRd 4 rfl hmhlk50) (by first | rfl | omega | (simp only [List.length_cons, List.length_nil, List.length_drop, List.length_take, List.length_append] <;> omega))) [64, 66] [(64, .bool true), (66, .string (strOf ([97] : List UInt8)))] (by kernel_rfl) (by kernel_rfl) rfl ?_
     refine GL.sem (j := 33) (run_str_eql (P := Try.prog) (t := 9) ([97] : List UInt8) ([97] : List UInt8) _) [64, 67] [(64, .bool true), (67, .bool true)] (by kernel_rfl) (by kernel_rfl) rfl ?_
     refine GL.run (j := 35) 2 [0] [(0, .bool true)] (by kernel_rfl) rfl ?_
     refine GL.k rfl hK55 (fun _ _ h => h) ?_
     refine G.ret ?_
     intro F_ hF_ hM_
     refine hRet _ _ (bodyPost_1 rfl (RV.tmp rfl) ?_ F_ hF_ hM_)
     exact ⟨rfl, H52.sub (List.nil_sublist _)⟩
end Go.Proofs.Ythcdelpdgkoioaa
namespace Go.Proofs.Ythcdelpdgkoioaa
open Go.RowKit Go.ChangeShapes Go.WideShapes Go.ChangeAt
structure TIn where
 fr : List UInt8
 ix : Nat
 B : Option Addr
 kb : List UInt8
 kc : Nat
 sq : Nat
structure TOut where
 pv : Nat
 B : Option Addr
 lb : List UInt8
 lc : Nat
def TIn.cells (x : TIn) : List Value := by8 x.fr ++ [.int .u32 (x.ix : Int), .slice x.B x.kb.length x.kc, .int .u32 (x.sq : Int)]
def TOut.cells (x : TOut) : List Value := [.int .u64 (x.pv : Int), .slice x.B x.lb.length x.lc]
def TIn.bytes (x : TIn) : List UInt8 := x.fr ++ (putB x.ix 4 ++ ((cnt x.kb.length ++ x.kb) ++ putB x.sq 4))
def TOut.bytes (x : TOut) : List UInt8 := putB x.pv 8 ++ (cnt x.lb.length ++ x.lb)
section
variable {α : Type} {f : α → List Value} {sz : Nat}
theorem flat_len (l : List α) (h : ∀ x ∈ l, (f x).length = sz) : (l.flatMap f).length = l.length * sz := by
 induction l with
 | nil => simp
 | cons a l ih => rw [List.flatMap_cons, List.length_append, h a List.mem_cons_self, ih fun x hx => h x (List.mem_cons_of_mem _ hx), List.length_cons, Nat.add_mul]; omega
theorem flat_cut (l : List α) : ∀ (_ : ∀ x ∈ l, (f x).length = sz) (i : Nat) (x : α), l[i]? = some x → ((l.flatMap f).drop (i * sz)).take sz = f x := by
 induction l with
 | nil => intro _ i x hx; simp at hx
 | cons a l ih =>
   intro h i x hx
   have ha := h a List.mem_cons_self
   cases i with
   | zero =>
     simp at hx
     subst hx
     rw [Nat.zero_mul, List.drop_zero, List.flatMap_cons, List.take_left' ha]
   | succ i =>
     rw [List.flatMap_cons, Nat.add_mul, Nat.one_mul, Nat.add_comm, ← List.drop_drop, List.drop_left' ha]
     exact ih (fun y hy => h y (List.mem_cons_of_mem _ hy)) i x (by simpa using hx)
theorem flat_of (g : Nat → α) : ∀ (n : Nat) (xs : List Value), xs.length = n * sz → (∀ i, i < n → (xs.drop (i * sz)).take sz = f (g i)) → xs = ((List.range n).map g).flatMap f := by
 intro n
 induction n with
 | zero => intro xs h _; simpa using h
 | succ n ih =>
   intro xs h hel
   have hl : (xs.take (n * sz)).length = n * sz := by
     rw [List.length_take, h, Nat.add_mul]
     omega
   have e1 := ih (xs.take (n * sz)) hl fun i hi => by
     have hle : i * sz + sz ≤ n * sz := by rw [← Nat.succ_mul]; exact Nat.mul_le_mul_right _ hi
     rw [List.drop_take, List.take_take, Nat.min_eq_left (by omega)]
     exact hel i (by omega)
   have e2 : xs.drop (n * sz) = f (g n) := by
     rw [← hel n (by omega), List.take_of_length_le]
     rw [List.length_drop, h, Nat.add_mul]
     omega
   rw [List.range_succ, List.map_append, List.flatMap_append, ← e1]
   simp only [List.map_cons, List.map_nil, List.flatMap_cons, List.flatMap_nil, List.append_nil]
   rw [← e2, List.take_append_drop]
end
section
variable {w0 w w' : World} {S : List Nat} {L A' B' : List Ent}
def TIn.Ok (w : World) (S : List Nat) (x : TIn) : Prop := x.fr.length = 32 ∧ x.ix < 4294967296 ∧ x.sq < 4294967296 ∧ RdO w S x.B (by8 x.kb) ∧ x.kb.length ≤ x.kc ∧ x.kc ≤ maxLen
def TOut.Ok (w : World) (S : List Nat) (x : TOut) : Prop := x.pv < 18446744073709551616 ∧ RdO w S x.B (by8 x.lb) ∧ x.lb.length ≤ x.lc ∧ x.lc ≤ maxLen
theorem Blk.old {b : Nat} {cs : List Value} {t : TypeId} (h : Blk w0 b cs t) (H : Hp w0 [] L w) : Blk w b cs t := h.same (H.keep b h.lt (by simp))
end
end Go.Proofs.Ythcdelpdgkoioaa
namespace Go.Proofs.Ythcdelpdgkoioaa
open Go.RowKit
def u8Row (P : Program) (t : TypeId) : Option TypeId :=
 match P.underlying t with
 | some (.slice e) => match P.info? e with
   | some i => match i.zero with
     | some (.int .u8 n) => if n = 0 ∧ i.size = 1 ∧ i.bytes = 1 then some e else none
     | _ => none
   | none => none
 | _ => none
theorem u8Row_spec {P : Program} {t e : TypeId} (h : u8Row P t = some e) : ∃ i, P.underlying t = some (.slice e) ∧ P.info? e = some i ∧ i.zero = some (.int .u8 0) ∧ i.size = 1 ∧ i.bytes = 1 := by
 unfold u8Row at h
 split at h
 · rename_i e' he
   split at h
   · rename_i i hi
     split at h
     · rename_i n hz
       split at h
       · rename_i hc
         injection h with h
         subst h
         obtain ⟨rfl, h1, h2⟩ := hc
         exact ⟨i, he, hi, hz, h1, h2⟩
       · cases h
     · cases h
   · cases h
 · cases h
section
variable {P : Program} {ops : Array Oper} {Q : Exit → Act → World → Prop} {i n : Nat} {M : FM} {w : World}
theorem GL.joinAt {X : Type} (i' : Nat) (Mx : X → FM) (J : X → World → Prop) (h : (∀ x w', J x w' → GL P ops Q i' n (Mx x) w') → GL P ops Q i n M w) (hb : ∀ x w', J x w' → GL P ops Q i' n (Mx x) w') : GL P ops Q i n M w := h hb
end
end Go.Proofs.Ythcdelpdgkoioaa
namespace Go.Proofs.Ythcdelpdgkoioaa
open Go.RowKit Go.ChangeShapes Go.WideShapes Go.ChangeAt
section
variable {P : Program} {w0 w w' : World} {S : List Nat} {L : List Ent}
theorem Hp.queNil (H : Hp w0 S L w) (e : Nat) : Hp w0 S (L ++ [.que none 0 0 e []]) w := by
 refine H.callNew (L' := [.que none 0 0 e []]) ⟨rfl, rfl, rfl, Nat.le_refl _, fun k hk _ => rfl, ?_, ?_, by simp [ids, Ent.ids]⟩
 · intro x hx
   simp at hx
   subst hx
   exact .inl ⟨rfl, rfl, rfl, rfl⟩
 · intro k hk
   simp [ids, Ent.ids] at hk
theorem Hp.queAt (H : Hp w0 S L w) (i : Nat) {A : Option Addr} {n c e : Nat} {xs : List Value} (hL : L[i]? = some (.que A n c e xs)) : QueH w A n c e xs := H.ents _ (List.mem_of_getElem? hL)
theorem Hp.rdQue (H : Hp w0 S L w) (i : Nat) {A : Option Addr} {n c e : Nat} {xs : List Value} (hL : L[i]? = some (.que A n c e xs)) : RdS w A xs := by
 rcases H.queAt i hL with ⟨_, _, _, rfl⟩ | ⟨b, o, cs, rfl, hb, _, _, _, hx⟩
 · exact .inl rfl
 · exact RdS.blk hb o n hx.symm
theorem Hp.queLe (H : Hp w0 S L w) (i : Nat) {A : Option Addr} {n c e : Nat} {xs : List Value} (hL : L[i]? = some (.que A n c e xs)) : n ≤ c ∧ c ≤ maxLen := by
 rcases H.queAt i hL with ⟨_, rfl, rfl, _⟩ | ⟨b, o, cs, _, _, _, h, h2, _⟩
 · exact ⟨Nat.le_refl _, Nat.zero_le _⟩
 · exact ⟨h, h2⟩
theorem que_own {A : Option Addr} {n c e : Nat} {xs : List Value} {b0 : Nat} (h : w.ownsRow b0 e 1 (.slice A n c) n xs) : QueH w A n c e xs := by
 rcases h.2 with ⟨h0, hn⟩ | ⟨g, cap, cur, hv, _, hh, hnc, hcm, hcs, ht⟩
 · injection h0 with h1 h2 h3
   refine .inl ⟨h1, hn, h3, ?_⟩
   have := h.1
   rw [hn] at this
   exact List.eq_nil_of_length_eq_zero (by simpa using this)
 · injection hv with h1 _ h3
   subst h3
   refine .inr ⟨g, 0, cur.toList, h1, ⟨0, 0, by simpa using hh, .inl rfl⟩, ?_, hnc, hcm, ?_⟩
   · simp [hcs]
   · rw [← ht, Nat.mul_one, List.drop_zero]
theorem que_ids {A : Option Addr} {n c e : Nat} {xs : List Value} : (Ent.que A n c e xs).ids.Nodup := by cases A <;> simp [Ent.ids]
theorem Hp.queAppend (H : Hp w0 S L w) (i : Nat) {A B : Option Addr} {n c d t ty e by_ : Nat} {xs : List Value} {v : Value} (hL : L[i]? = some (.que A n c e xs)) (ht : elOf P t = some (e, 1, by_)) (hr : RdS w B [v]) (h1 : v.oneCell' = true) (hx : xs.length = n)
   (hb : (n + 1) * by_ ≤ 140737488355328) (h63 : n + 1 ≤ maxLen) :
   ∃ A' c' w', (Builtin.append_ #[t, t] ty #[.slice A n c, .slice B 1 d]).run P w = .ok (.slice A' (n + 1) c') w' ∧ Hp w0 S (L.set i (.que A' (n + 1) c' e (xs ++ [v]))) w' := by
 obtain ⟨inf, z, hu, hi, hz, hsz, hby, hzc, hpos⟩ := elOf_spec ht
 obtain ⟨a, rfl, ha, hc⟩ : ∃ a, B = some a ∧ a.block < w.heap.size ∧ ∀ j u, ([v] : List Value)[j]? = some u → w.cell? (a.add j) = some u := by
   rcases hr with h | h
   · cases h
   · exact h
 have grown : ∀ {v' : Value} {w' : World} {b0 : Nat} {row : Option Nat}, w'.ownsRow b0 e 1 v' (n + 1) (xs ++ [v]) → w.grownBy w' row → (v'.ownBlock = none ∨ v'.ownBlock = some w.heap.size ∨ ∃ k, v'.ownBlock = some k ∧ w.heap.size ≤ k) → row = none → ∃ A' c', v' = .slice A' (n + 1) c' ∧ Hp w0 S (L.set i (.que A' (n + 1) c' e (xs ++ [v]))) w' := by
   intro v' w' b0 row hown hg hat hrow
   have hown0 : w'.ownsRow 0 e 1 v' (n + 1) (xs ++ [v]) := ⟨hown.1, hown.2.imp_right fun ⟨g, cap, cur, h1, _, h2⟩ => ⟨g, cap, cur, h1, Nat.zero_le _, h2⟩⟩
   obtain ⟨A', c', rfl⟩ := row_shape hown0
   refine ⟨A', c', rfl, H.turnNew i hL ?_ que_ids (que_own hown0) hg.os hg.tape hg.output hg.size ?_⟩
   · intro k hk
     cases A' with
     | none => simp [Ent.ids] at hk
     | some a' =>
       simp [Ent.ids] at hk
       rcases hat with h | h | ⟨q, h, hq⟩
       · cases h
       · injection h with h
         right
         omega
       · injection h with h
         right
         omega
   · intro k hk _
     exact hg.block k hk (by rw [hrow]; exact fun h => by cases h)
 rcases H.queAt i hL with ⟨rfl, rfl, rfl, rfl⟩ | ⟨b, o, cs, rfl, hblk, hoc, hnc, hcm, hxs⟩
 · obtain ⟨v', w', hrun, hown, hg, _, hat⟩ := run_append_own_at (P := P) w 0 t ty e inf z 1 by_ hu hi hz hsz hby hzc hpos (.slice none 0 0) 0 [] (World.ownsRow_nil w 0 e 1) a 1 d [v] rfl hc (by simpa using h1) h63 hb (Nat.zero_le _)
   obtain ⟨A', c', rfl, hH⟩ := grown (row := none) hown hg (by rcases hat with h | h; exact .inl h; exact .inr (.inl h)) rfl
   exact ⟨A', c', w', hrun, hH⟩
 · by_cases hroom : n + 1 ≤ c
   · have hrun := run_append_room_cells (P := P) w t ty e inf hu hi b o n c a 1 d [v] (by rw [hsz]; rfl) hc (by simpa using h1) hroom
       (fun j hj => by
         simp at hj
         subst hj
         rw [hblk.cell, hsz, Nat.mul_one, Nat.add_zero]
         simp
         omega)
       (fun j hj => by
         simp at hj
         subst hj
         rw [hsz, Nat.mul_one, Nat.add_zero]
         exact hblk.frozen (by omega))
     rw [hsz, Nat.mul_one] at hrun
     refine ⟨some ⟨b, o, none⟩, c, w.setCell ⟨b, o + n, none⟩ v, hrun, H.turn i hL rfl (.inr ⟨b, o, cs.set (o + n) v, rfl, hblk.set_ (o + n) v, by simpa using hoc, hroom, hcm, ?_⟩) rfl rfl rfl (by simp [World.setCell]) ?_⟩
     · have hlen : ((cs.drop o).take n).length = n := by
         rw [List.length_take, List.length_drop]
         omega
       have e1 : (cs.set (o + n) v).drop o = (cs.drop o).set n v := by
         rw [List.drop_set]
         rw [if_neg (by omega), Nat.add_sub_cancel_left]
       rw [e1, List.take_add_one, List.take_set_of_le (Nat.le_refl _), ← hxs, List.getElem?_set_self (by rw [List.length_drop]; omega)]
       rfl
     · intro k _ hk
       have hk' : k ≠ b := by
         intro h
         apply hk
         simp [Ent.ids, h]
       simp [World.setCell, Array.getElem?_modify, Ne.symm hk']
   · have holds : ∀ j u, xs[j]? = some u → w.cell? ((⟨b, o, none⟩ : Addr).add j) = some u := by
       intro j u hj
       rw [Addr.add_lit, hblk.cell, ← hj, hxs]
       have hjn : j < n := by rw [← hx]; exact (List.getElem?_eq_some_iff.1 hj).1
       rw [List.getElem?_take_of_lt hjn, List.getElem?_drop]
     obtain ⟨v', w', hrun, hown, hg⟩ := run_append_arg_grows (P := P) w t ty e inf z 1 by_ hu hi hz hsz hby hzc hpos ⟨b, o, none⟩ n c xs (by rw [hx, Nat.mul_one]) holds a 1 d [v] rfl hc (by omega) h63 hb
     obtain ⟨A', c', rfl, hH⟩ := grown (row := none) hown hg (by
       rcases hown.2 with ⟨h0, _⟩ | ⟨g, cap, cur, hv, hbg, _⟩
       · left
         rw [h0]
         rfl
       · right
         right
         exact ⟨g, by rw [hv]; rfl, hbg⟩) rfl
     exact ⟨A', c', w', hrun, hH⟩
theorem Hp.queTail (H : Hp w0 S L w) (i : Nat) {A : Option Addr} {n c e : Nat} {x : Value} {xs : List Value} (hL : L[i]? = some (.que A n c e (x :: xs))) (hn : n = xs.length + 1) : Hp w0 S (L.set i (.que (if c = 1 then A else A.map fun a => Addr.add a 1) (n - 1) (c - 1) e xs)) w := by
 rcases H.queAt i hL with ⟨_, _, _, h⟩ | ⟨b, o, cs, rfl, hblk, hoc, hnc, hcm, hxs⟩
 · cases h
 · have hd : ∃ rest, cs.drop o = x :: rest ∧ xs = rest.take (n - 1) := by
     cases hcd : cs.drop o with
     | nil => rw [hcd] at hxs; simp at hxs
     | cons y rest =>
       rw [hcd, hn, List.take_succ_cons] at hxs
       injection hxs with h1 h2
       exact ⟨rest, by rw [h1], by rw [hn]; exact h2⟩
   obtain ⟨rest, hd1, hd2⟩ := hd
   by_cases hc1 : c = 1
   · refine H.turn i hL ?_ ?_ rfl rfl rfl (Nat.le_refl _) (fun _ _ _ => rfl)
     · simp [Ent.ids, hc1]
     · rw [if_pos hc1]
       refine .inr ⟨b, o, cs, rfl, hblk, by omega, by omega, by omega, ?_⟩
       have h0 : n - 1 = 0 := by omega
       rw [hd2, h0, List.take_zero, List.take_zero]
   · refine H.turn i hL ?_ ?_ rfl rfl rfl (Nat.le_refl _) (fun _ _ _ => rfl)
     · simp [Ent.ids, hc1, Addr.add_lit]
     · rw [if_neg hc1]
       refine .inr ⟨b, o + 1, cs, by rw [Option.map_some, Addr.add_lit], hblk, by omega, by omega, by omega, ?_⟩
       rw [← List.drop_drop, hd1, List.drop_one, List.tail_cons, hd2]
theorem run_tail1 {t n c : Nat} {A : Option Addr} (ht : slcOf P t = some 1) (hn : 1 ≤ n) (hc : n ≤ c) :
   (Instr.sliceAt t (.slice A n c) (some (.int .i64 1)) none none).run P w = .ok (.slice (if c = 1 then A else A.map fun a => Addr.add a 1) (n - 1) (c - 1)) w := by
 obtain ⟨e, hu, hs⟩ := slcOf_spec ht
 have hb : (Instr.sliceBounds true n c (some (.int .i64 1)) none none).run P w = .ok (1, n, c) w := by
   have g1 : (1 : Int) ≤ (n : Int) := by omega
   simp [Instr.sliceBounds, Instr.sliceBound, asIntOf, g1, hc]
 simp only [Instr.sliceAt, Sem.run_bind, run_underlying hu, Result.andThen_ok, Instr.slice, hb, hs, Sem.run_pure, Nat.mul_one]
end
def mq (l : List Msg) : List Value := l.map fun m => .string (strOf m.b)
theorem mq_length (l : List Msg) : (mq l).length = l.length := List.length_map _
theorem mq_snoc (l : List Msg) (m : Msg) : mq (l ++ [m]) = mq l ++ [.string (strOf m.b)] := by simp [mq]
theorem mq_put (a : List Msg) (A : Option Addr) (b : List UInt8) (c : Nat) : mq (a ++ [Msg.mk A b c]) = mq a ++ [.string (strOf b)] := mq_snoc a _
theorem ln_head {l : List Msg} (h : l.length ≠ 0) : ∃ A b c r, l = Msg.mk A b c :: r := by
 cases l with
 | nil => exact absurd rfl h
 | cons m r => exact ⟨m.A, m.b, m.c, r, rfl⟩
theorem put_cases (n : Int) (cl : Bool) (rm x0 x1 x2 : Nat) : ¬ (0 ≤ n ∧ n < 3) ∨ (n = 0 ∧ cl = true) ∨ (n = 0 ∧ cl = false ∧ x0 < rm) ∨ (n = 0 ∧ cl = false ∧ rm ≤ x0) ∨ (n = 1 ∧ cl = true) ∨ (n = 1 ∧ cl = false ∧ x1 < rm) ∨ (n = 1 ∧ cl = false ∧ rm ≤ x1) ∨ (n = 2 ∧ cl = true) ∨ (n = 2 ∧ cl = false ∧ x2 < rm) ∨ (n = 2 ∧ cl = false ∧ rm ≤ x2) := by
 cases cl
 · have h : (false = true) = False := by simp
   simp only [h, and_false, true_and]
   omega
 · have h : (true = false) = False := by simp
   simp only [h, false_and, and_false, and_true]
   omega
theorem bb_cases (x y : Bool) : y = false ∨ (y = true ∧ x = true) ∨ (y = true ∧ x = false) := by cases x <;> cases y <;> simp
section
variable {P : Program} {w0 w : World} {S : List Nat} {L : List Ent}
theorem made_zeros8 (n : Nat) : (madeCells (Value.int .u8 0).cells (n * 1)).toList = by8 (List.replicate n 0) := by
 refine List.ext_getElem? (fun i => ?_)
 by_cases h : i < n
 · simp [madeCells, by8, h, Value.cells, Nat.mod_one]
 · simp [madeCells, by8, h, Value.cells]
theorem Hp.make8 (H : Hp w0 S L w) {t e n : Nat} {kl kc : IntKind} (ht : u8Row P t = some e) (hn : n ≤ 1099511627776) :
   ∃ b w', (Instr.makeSlice t (.int kl (n : Int)) (.int kc (n : Int))).run P w = .ok (.slice (some ⟨b, 0, none⟩) n n) w' ∧ Hp w0 S (L ++ [.row (some ⟨b, 0, none⟩) n n e 1 (by8 (List.replicate n 0))]) w' := by
 obtain ⟨i, hu, hi, hz, hs, hb⟩ := u8Row_spec ht
 have hr := run_make (P := P) w t e i _ hu hi hz kl kc (n : Int) (n : Int) (by omega) (Int.le_refl _) (by rw [hb]; omega) (by omega)
 refine ⟨w.heap.size, _, hr, ?_⟩
 have H1 := H.new (by8 (List.replicate n 0)) e
 have e1 : w.alloc (.cells (madeCells (Value.int .u8 0).cells ((n : Int).toNat * i.size)) e) = w.alloc (.cells (by8 (List.replicate n 0)).toArray e) := by
   rw [hs, Int.toNat_natCast, ← made_zeros8, Array.toArray_toList]
 rw [e1]
 have H2 := Hp.blkRow (b := w.heap.size) H1 (heap_alloc_new w _) (n := n) (c := n) (sz := 1) (Nat.le_refl _) (by simp only [maxLen]; omega) (by rw [by8_length]; simp)
 rwa [List.take_of_length_le (by rw [by8_length]; simp)] at H2
end
structure DAct where
 k : Int
 ln : Int
 B : Option Addr
 b : List UInt8
 c : Nat
def DAct.nil : DAct := ⟨0, 0, none, [], 0⟩
def DAct.cells (x : DAct) : List Value := [.int .i64 x.k, .int .i64 x.ln, .slice x.B x.b.length x.c]
def actsC (l : List DAct) : List Value := l.flatMap DAct.cells
def DAct.Ok (w : World) (S : List Nat) (x : DAct) : Prop := RdO w S x.B (by8 x.b) ∧ x.b.length ≤ x.c ∧ x.c ≤ maxLen
theorem actsC_length (l : List DAct) : (actsC l).length = l.length * 3 := flat_len l fun _ _ => rfl
theorem actsC_cut {l : List DAct} {i : Nat} {x : DAct} (hx : l[i]? = some x) : ((actsC l).drop (i * 3)).take 3 = x.cells := flat_cut (f := DAct.cells) (sz := 3) l (fun _ _ => rfl) i x hx
section
variable {H : Type} {enc : TypeId × Value → H} {P : Program} {w : World} {sp : Nat → Bool} {held : Bool}
theorem act_of {cs : List Value} {a b c : Value} (hl : cs.length = 3) (h0 : cs[0]? = some a) (h1 : cs[1]? = some b) (h2 : cs[2]? = some c) : cs = [a, b, c] := by
 match cs, hl with
 | [x, y, z], _ =>
   simp at h0 h1 h2
   rw [h0, h1, h2]
theorem open_acts {t e e1 e3 e2 e5 : TypeId} {fuel : Nat} {cs : List Value} {x : DataW H × List MemPlace} (ht : P.underlying t = some (.slice e)) (hc : P.cellsOf e = 3) (hok : lvOk P 1 e = true) (hls : lv P 1 e 0 = [(0, e1), (1, e3), (2, e2)])
   (h1 : P.underlying e1 = some (.int .i64)) (h3 : P.underlying e3 = some (.int .i64)) (h2 : P.underlying e2 = some (.slice e5)) (h5 : P.underlying e5 = some (.int .u8)) (h6 : P.cellsOf e5 = 1) (h : DataW.trod enc P w 0 sp held fuel t cs = some x) :
   ∃ (A : Option Addr) (l : List DAct) (c : Nat), cs = [.slice A l.length c] ∧ RdS w A (actsC l) ∧ l.length ≤ c ∧ c ≤ maxLen ∧ ∀ x ∈ l, x.Ok w [] := by
 obtain ⟨A, n, c, xs, rfl, hr, hl, hnc, hcm, hel⟩ := open_structs 3 ht hc (by decide) h
 have hC : ∀ i, ∃ p : DAct, i < n → (xs.drop (i * 3)).take 3 = p.cells ∧ p.Ok w [] := by
   intro i
   by_cases hi : i < n
   · obtain ⟨hl3, m, y, hy⟩ := hel i hi
     have hlv := open_leaves 1 (by rw [hc]; exact hl3) hok hy hls
     obtain ⟨k, g1, _⟩ := (hlv (0, e1) (by simp)).int h1
     obtain ⟨ln, g3, _⟩ := (hlv (1, e3) (by simp)).int h3
     obtain ⟨B, kb, kc, g2, l2, l3, l4⟩ := (hlv (2, e2) (by simp)).bytes h2 h5 h6
     exact ⟨⟨k, ln, B, kb, kc⟩, fun _ => ⟨act_of hl3 g1 g3 g2, RdO.of l2, l3, l4⟩⟩
   · exact ⟨DAct.nil, fun hh => absurd hh hi⟩
 let g : Nat → DAct := fun i => Classical.choose (hC i)
 have hg : ∀ i, i < n → (xs.drop (i * 3)).take 3 = (g i).cells ∧ (g i).Ok w [] := fun i => Classical.choose_spec (hC i)
 refine ⟨A, (List.range n).map g, c, by simp, ?_, by simpa using hnc, hcm, ?_⟩
 · rw [actsC, ← flat_of (f := DAct.cells) (sz := 3) g n xs hl fun i hi => (hg i hi).1]
   exact hr
 · intro x hx
   obtain ⟨i, hi, rfl⟩ := List.mem_map.1 hx
   exact (hg i (List.mem_range.1 hi)).2
end
end Go.Proofs.Ythcdelpdgkoioaa
