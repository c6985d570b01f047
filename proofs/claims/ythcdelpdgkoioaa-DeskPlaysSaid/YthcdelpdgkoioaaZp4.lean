/- Part 4 of what deskPlays_proved stands on. -/
import Derived.Test.YthcdelpdgkoioaaZp3
set_option linter.unusedVariables false
set_option maxRecDepth 100000
namespace Go.Proofs.Ythcdelpdgkoioaa
open Go.RowKit
set_option maxHeartbeats 4000000 in
theorem MTake2_calls (S : List Nat) (m : Nat) (q0 q1 q2 : Option Addr) (k0 k1 k2 : Nat) (cl : Bool) (a0 a1 a2 : Lane) (m_ : Msg) (t_ : List Msg) (w : World) (h0 : Hp w S [.blk m [.slice q0 a0.l.length k0, .slice q1 a1.l.length k1, .slice q2 a2.l.length k2, .int .i64 (a0.p : Int), .int .i64 (a1.p : Int), .int .i64 (a2.p : Int), .bool cl] 39, .que q0 a0.l.length k0 9 (mq a0.l), .que q1 a1.l.length k1 9 (mq a1.l), .que q2 a2.l.length k2 9 (mq a2.l)] w) (hz0 : a0.z) (hz1 : a1.z) (hz2 : a2.z) (htk : tkN a0 a1 a2 = 2) (hlk : a2.l = m_ :: t_) : Calls Try.prog 11 #[pt m 0] w fun e w' => ∃ A' c', e = .returned (.tuple #[.string (strOf m_.b), .int .i64 2, .bool true]) ∧ Hp w S [.blk m [.slice q0 a0.pass.l.length k0, .slice q1 a1.pass.l.length k1, .slice A' ((a2.took t_).l.length) c', .int .i64 (a0.pass.p : Int), .int .i64 (a1.pass.p : Int), .int .i64 (((a2.took t_).p : Nat) : Int), .bool cl] 39, .que q0 a0.pass.l.length k0 9 (mq a0.pass.l), .que q1 a1.pass.l.length k1 9 (mq a1.pass.l), .que A' ((a2.took t_).l.length) c' 9 (mq (a2.took t_).l)] w' := by
 have hmq : mq a2.l = .string (strOf m_.b) :: mq t_ := by rw [hlk]; rfl
 have hne : a2.l.length ≠ 0 := by rw [hlk]; exact Nat.succ_ne_zero _
 have hzp0 := hz0.2
 have hq0 := (h0.queLe 1 rfl).1
 have hzp1 := hz1.2
 have hq1 := (h0.queLe 2 rfl).1
 have hzp2 := hz2.2
 have hq2 := (h0.queLe 3 rfl).1
 refine calls_G (args := [pt m 0]) Try.func11 rfl Try.ntmps11 rfl ?_
 intro Q0 hRet hNor hPan
 have H := h0
 have H : Hp w S [.blk m [.slice q0 a0.l.length k0, .slice q1 a1.l.length k1, .slice q2 a2.l.length k2, .int .i64 (a0.p : Int), .int .i64 (a1.p : Int), .int .i64 (a2.p : Int), .bool cl] 39, .que q0 a0.l.length k0 9 (mq a0.l), .que q1 a1.l.length k1 9 (mq a1.l), .que q2 a2.l.length k2 9 (mq a2.l)] w := H
 refine G.seqK fun K1 hK2 => ?_
 refine G.region ?_
 refine GL.run (j := 3) 3 [0] [(0, pt m 0)] (by kernel_rfl) rfl ?_
 refine GL.k rfl hK2 (fun _ _ h => h) ?_
 refine G.seqK fun K3 hK4 => ?_
 refine G.region ?_
 refine GL.run (j := 1) 1 [0, 5] [(0, pt m 0), (5, .int .i64 (-1))] (by kernel_rfl) rfl ?_
 refine GL.k rfl hK4 (fun _ _ h => h) ?_
 refine G.seqK fun K5 hK6 => ?_
 refine G.seqK fun K7 hK8 => ?_
 refine G.region ?_
 refine GL.run (j := 1) 1 [0, 5, 6] [(0, pt m 0), (5, .int .i64 (-1)), (6, .int .i64 2)] (by kernel_rfl) rfl ?_
 refine GL.k rfl hK8 (fun _ _ h => h) ?_
 refine G.block ?_
 refine G.unroll 3 ?_
 refine G.seqK fun K9 hK10 => ?_
 refine G.seqK fun K11 hK12 => ?_
 refine G.region ?_
 refine GL.run (j := 2) 2 [0, 5, 6, 11] [(0, pt m 0), (5, .int .i64 (-1)), (6, .int .i64 2), (11, .bool true)] (by kernel_rfl) rfl ?_
 refine GL.k rfl hK12 (fun _ _ h => h) ?_
 refine G.yes rfl ?_
 refine G.skipK hK10 (fun _ _ h => h) ?_
 refine G.seqK fun K13 hK14 => ?_
 refine G.block ?_
 refine G.seqK fun K15 hK16 => ?_
 refine G.region ?_
 refine GL.run (j := 5) 5 [0, 5, 6, 18] [(0, pt m 0), (5, .int .i64 (-1)), (6, .int .i64 2), (18, pt m 2)] (by kernel_rfl) rfl ?_
 refine GL.sem (j := 6) (H.ld (o := 2) (ty := 36) (v := .slice q2 a2.l.length k2) 0 rfl (by kernel_rfl) rfl) [0, 5, 6, 19] [(0, pt m 0), (5, .int .i64 (-1)), (6, .int .i64 2), (19, .slice q2 a2.l.length k2)] (by kernel_rfl) (by kernel_rfl) rfl ?_
 refine GL.run (j := 8) 2 [0, 5, 6, 21] [(0, pt m 0), (5, .int .i64 (-1)), (6, .int .i64 2), (21, .bool (decide (0 < (a2.l.length : Int))))] (by kernel_rfl) rfl ?_
 refine GL.k rfl hK16 (fun _ _ h => h) ?_
 have hb17 : (decide (0 < (a2.l.length : Int))) = true := decide_eq_true (by omega)
 rw [hb17]
 refine G.yes rfl ?_
 refine G.region ?_
 refine GL.run (j := 2) 2 [0, 5, 6] [(0, pt m 0), (5, .int .i64 2), (6, .int .i64 2)] (by kernel_rfl) rfl ?_
 refine GL.k rfl hK14 (fun _ _ h => h) ?_
 refine G.region ?_
 refine GL.run (j := 3) 3 [0, 5, 6] [(0, pt m 0), (5, .int .i64 2), (6, .int .i64 1)] (by kernel_rfl) rfl ?_
 refine GL.round rfl ?_
 refine G.seqK fun K18 hK19 => ?_
 refine G.seqK fun K20 hK21 => ?_
 refine G.region ?_
 refine GL.run (j := 2) 2 [0, 5, 6, 11] [(0, pt m 0), (5, .int .i64 2), (6, .int .i64 1), (11, .bool true)] (by kernel_rfl) rfl ?_
 refine GL.k rfl hK21 (fun _ _ h => h) ?_
 refine G.yes rfl ?_
 refine G.skipK hK19 (fun _ _ h => h) ?_
 refine G.seqK fun K22 hK23 => ?_
 refine G.block ?_
 refine G.seqK fun K24 hK25 => ?_
 refine G.region ?_
 refine GL.run (j := 5) 5 [0, 5, 6, 18] [(0, pt m 0), (5, .int .i64 2), (6, .int .i64 1), (18, pt m 1)] (by kernel_rfl) rfl ?_
 refine GL.sem (j := 6) (H.ld (o := 1) (ty := 36) (v := .slice q1 a1.l.length k1) 0 rfl (by kernel_rfl) rfl) [0, 5, 6, 19] [(0, pt m 0), (5, .int .i64 2), (6, .int .i64 1), (19, .slice q1 a1.l.length k1)] (by kernel_rfl) (by kernel_rfl) rfl ?_
 refine GL.run (j := 8) 2 [0, 5, 6, 21] [(0, pt m 0), (5, .int .i64 2), (6, .int .i64 1), (21, .bool (decide (0 < (a1.l.length : Int))))] (by kernel_rfl) rfl ?_
 refine GL.k rfl hK25 (fun _ _ h => h) ?_
 cases hb26 : (decide (0 < (a1.l.length : Int)))
 · skip
   have hb26f := of_decide_eq_false hb26
   refine G.no rfl ?_
   refine G.region ?_
   refine GL.run (j := 5) 5 [0, 5, 6, 27] [(0, pt m 0), (5, .int .i64 2), (6, .int .i64 1), (27, pt m 4)] (by kernel_rfl) rfl ?_
   obtain ⟨w27, r28, H29⟩ := H.st (P := Try.prog) (o := 4) (ty := 3) (v := .int .i64 0) 0 rfl (by kernel_rfl) (by simp) rfl
   have H29 : Hp w S [.blk m [.slice q0 a0.l.length k0, .slice q1 a1.l.length k1, .slice q2 a2.l.length k2, .int .i64 (a0.p : Int), .int .i64 0, .int .i64 (a2.p : Int), .bool cl] 39, .que q0 a0.l.length k0 9 (mq a0.l), .que q1 a1.l.length k1 9 (mq a1.l), .que q2 a2.l.length k2 9 (mq a2.l)] w27 := H29
   refine GL.semU (j := 6) r28 [0, 5, 6] [(0, pt m 0), (5, .int .i64 2), (6, .int .i64 1)] (by kernel_rfl) rfl rfl rfl ?_
   refine GL.k rfl hK23 (fun _ _ h => h) ?_
   refine G.region ?_
   refine GL.run (j := 3) 3 [0, 5, 6] [(0, pt m 0), (5, .int .i64 2), (6, .int .i64 0)] (by kernel_rfl) rfl ?_
   refine GL.round rfl ?_
   refine G.seqK fun K30 hK31 => ?_
   refine G.seqK fun K32 hK33 => ?_
   refine G.region ?_
   refine GL.run (j := 2) 2 [0, 5, 6, 11] [(0, pt m 0), (5, .int .i64 2), (6, .int .i64 0), (11, .bool true)] (by kernel_rfl) rfl ?_
   refine GL.k rfl hK33 (fun _ _ h => h) ?_
   refine G.yes rfl ?_
   refine G.skipK hK31 (fun _ _ h => h) ?_
   refine G.seqK fun K34 hK35 => ?_
   refine G.block ?_
   refine G.seqK fun K36 hK37 => ?_
   refine G.region ?_
   refine GL.run (j := 5) 5 [0, 5, 6, 18] [(0, pt m 0), (5, .int .i64 2), (6, .int .i64 0), (18, pt m 0)] (by kernel_rfl) rfl ?_
   refine GL.sem (j := 6) (H29.ld (o := 0) (ty := 36) (v := .slice q0 a0.l.length k0) 0 rfl (by kernel_rfl) rfl) [0, 5, 6, 19] [(0, pt m 0), (5, .int .i64 2), (6, .int .i64 0), (19, .slice q0 a0.l.length k0)] (by kernel_rfl) (by kernel_rfl) rfl ?_
   refine GL.run (j := 8) 2 [0, 5, 6, 21] [(0, pt m 0), (5, .int .i64 2), (6, .int .i64 0), (21, .bool (decide (0 < (a0.l.length : Int))))] (by kernel_rfl) rfl ?_
   refine GL.k rfl hK37 (fun _ _ h => h) ?_
   cases hb38 : (decide (0 < (a0.l.length : Int)))
   · skip
     have hb38f := of_decide_eq_false hb38
     refine G.no rfl ?_
     refine G.region ?_
     refine GL.run (j := 5) 5 [0, 5, 6, 27] [(0, pt m 0), (5, .int .i64 2), (6, .int .i64 0), (27, pt m 3)] (by kernel_rfl) rfl ?_
     obtain ⟨w39, r40, H41⟩ := H29.st (P := Try.prog) (o := 3) (ty := 3) (v := .int .i64 0) 0 rfl (by kernel_rfl) (by simp) rfl
     have H41 : Hp w S [.blk m [.slice q0 a0.l.length k0, .slice q1 a1.l.length k1, .slice q2 a2.l.length k2, .int .i64 0, .int .i64 0, .int .i64 (a2.p : Int), .bool cl] 39, .que q0 a0.l.length k0 9 (mq a0.l), .que q1 a1.l.length k1 9 (mq a1.l), .que q2 a2.l.length k2 9 (mq a2.l)] w39 := H41
     refine GL.semU (j := 6) r40 [0, 5, 6] [(0, pt m 0), (5, .int .i64 2), (6, .int .i64 0)] (by kernel_rfl) rfl rfl rfl ?_
     refine GL.k rfl hK35 (fun _ _ h => h) ?_
     refine G.region ?_
     refine GL.run (j := 3) 3 [0, 5, 6] [(0, pt m 0), (5, .int .i64 2), (6, .int .i64 (-1))] (by kernel_rfl) rfl ?_
     refine GL.round rfl ?_
     refine G.seqK fun K42 hK43 => ?_
     refine G.seqK fun K44 hK45 => ?_
     refine G.region ?_
     refine GL.run (j := 2) 2 [0, 5, 6, 11] [(0, pt m 0), (5, .int .i64 2), (6, .int .i64 (-1)), (11, .bool false)] (by kernel_rfl) rfl ?_
     refine GL.k rfl hK45 (fun _ _ h => h) ?_
     refine G.no rfl ?_
     refine G.exitK hK6 (fun _ _ h => h) ?_
     refine G.seqK fun K46 hK47 => ?_
     refine G.seqK fun K48 hK49 => ?_
     refine G.region ?_
     refine GL.run (j := 2) 2 [0, 5, 29] [(0, pt m 0), (5, .int .i64 2), (29, .bool false)] (by kernel_rfl) rfl ?_
     refine GL.k rfl hK49 (fun _ _ h => h) ?_
     refine G.no rfl ?_
     refine G.skipK hK47 (fun _ _ h => h) ?_
     refine G.seqJ (X := Unit) (fun _ => [(0, pt m 0), (5, .int .i64 2)]) (fun _ w_ => (True) ∧ Hp w S [.blk m [.slice q0 a0.l.length k0, .slice q1 a1.l.length k1, .slice q2 a2.l.length k2, .int .i64 (a0.p : Int), .int .i64 (a1.p : Int), .int .i64 (a2.p : Int), .bool cl] 39, .que q0 a0.l.length k0 9 (mq a0.l), .que q1 a1.l.length k1 9 (mq a1.l), .que q2 a2.l.length k2 9 (mq a2.l)] w_) (fun J50 K51 hK52 => ?_) ?_
     · skip
       refine G.seqK fun K53 hK54 => ?_
       refine G.region ?_
       refine GL.run (j := 1) 1 [0, 5, 7] [(0, pt m 0), (5, .int .i64 2), (7, .int .i64 2)] (by kernel_rfl) rfl ?_
       refine GL.k rfl hK54 (fun _ _ h => h) ?_
       refine G.block ?_
       refine G.unroll 3 ?_
       refine G.seqK fun K55 hK56 => ?_
       refine G.seqK fun K57 hK58 => ?_
       refine G.region ?_
       refine GL.run (j := 2) 2 [0, 5, 7, 31] [(0, pt m 0), (5, .int .i64 2), (7, .int .i64 2), (31, .bool true)] (by kernel_rfl) rfl ?_
       refine GL.k rfl hK58 (fun _ _ h => h) ?_
       refine G.yes rfl ?_
       refine G.skipK hK56 (fun _ _ h => h) ?_
       refine G.seqK fun K59 hK60 => ?_
       refine G.block ?_
       refine G.seqK fun K61 hK62 => ?_
       refine G.region ?_
       refine GL.run (j := 5) 5 [0, 5, 7, 38] [(0, pt m 0), (5, .int .i64 2), (7, .int .i64 2), (38, pt m 5)] (by kernel_rfl) rfl ?_
       refine GL.sem (j := 6) (H41.ld (o := 5) (ty := 3) (v := .int .i64 (a2.p : Int)) 0 rfl (by kernel_rfl) rfl) [0, 5, 7, 39] [(0, pt m 0), (5, .int .i64 2), (7, .int .i64 2), (39, .int .i64 (a2.p : Int))] (by kernel_rfl) (by kernel_rfl) rfl ?_
       refine GL.run (j := 7) 1 [0, 5, 7, 40] [(0, pt m 0), (5, .int .i64 2), (7, .int .i64 2), (40, .bool (decide (4 ≤ (a2.p : Int))))] (by kernel_rfl) rfl ?_
       refine GL.k rfl hK62 (fun _ _ h => h) ?_
       cases hb63 : (decide (4 ≤ (a2.p : Int)))
       · skip
         have hb63f := of_decide_eq_false hb63
         refine G.no rfl ?_
         refine G.skipK hK60 (fun _ _ h => h) ?_
         refine G.region ?_
         refine GL.run (j := 3) 3 [0, 5, 7] [(0, pt m 0), (5, .int .i64 2), (7, .int .i64 1)] (by kernel_rfl) rfl ?_
         refine GL.round rfl ?_
         refine G.seqK fun K64 hK65 => ?_
         refine G.seqK fun K66 hK67 => ?_
         refine G.region ?_
         refine GL.run (j := 2) 2 [0, 5, 7, 31] [(0, pt m 0), (5, .int .i64 2), (7, .int .i64 1), (31, .bool true)] (by kernel_rfl) rfl ?_
         refine GL.k rfl hK67 (fun _ _ h => h) ?_
         refine G.yes rfl ?_
         refine G.skipK hK65 (fun _ _ h => h) ?_
         refine G.seqK fun K68 hK69 => ?_
         refine G.block ?_
         refine G.seqK fun K70 hK71 => ?_
         refine G.region ?_
         refine GL.run (j := 5) 5 [0, 5, 7, 38] [(0, pt m 0), (5, .int .i64 2), (7, .int .i64 1), (38, pt m 4)] (by kernel_rfl) rfl ?_
         refine GL.sem (j := 6) (H41.ld (o := 4) (ty := 3) (v := .int .i64 0) 0 rfl (by kernel_rfl) rfl) [0, 5, 7, 39] [(0, pt m 0), (5, .int .i64 2), (7, .int .i64 1), (39, .int .i64 0)] (by kernel_rfl) (by kernel_rfl) rfl ?_
         refine GL.run (j := 7) 1 [0, 5, 7, 40] [(0, pt m 0), (5, .int .i64 2), (7, .int .i64 1), (40, .bool false)] (by kernel_rfl) rfl ?_
         refine GL.k rfl hK71 (fun _ _ h => h) ?_
         refine G.no rfl ?_
         refine G.skipK hK69 (fun _ _ h => h) ?_
         refine G.region ?_
         refine GL.run (j := 3) 3 [0, 5, 7] [(0, pt m 0), (5, .int .i64 2), (7, .int .i64 0)] (by kernel_rfl) rfl ?_
         refine GL.round rfl ?_
         refine G.seqK fun K72 hK73 => ?_
         refine G.seqK fun K74 hK75 => ?_
         refine G.region ?_
         refine GL.run (j := 2) 2 [0, 5, 7, 31] [(0, pt m 0), (5, .int .i64 2), (7, .int .i64 0), (31, .bool true)] (by kernel_rfl) rfl ?_
         refine GL.k rfl hK75 (fun _ _ h => h) ?_
         refine G.yes rfl ?_
         refine G.skipK hK73 (fun _ _ h => h) ?_
         refine G.seqK fun K76 hK77 => ?_
         refine G.block ?_
         refine G.seqK fun K78 hK79 => ?_
         refine G.region ?_
         refine GL.run (j := 5) 5 [0, 5, 7, 38] [(0, pt m 0), (5, .int .i64 2), (7, .int .i64 0), (38, pt m 3)] (by kernel_rfl) rfl ?_
         refine GL.sem (j := 6) (H41.ld (o := 3) (ty := 3) (v := .int .i64 0) 0 rfl (by kernel_rfl) rfl) [0, 5, 7, 39] [(0, pt m 0), (5, .int .i64 2), (7, .int .i64 0), (39, .int .i64 0)] (by kernel_rfl) (by kernel_rfl) rfl ?_
         refine GL.run (j := 7) 1 [0, 5, 7, 40] [(0, pt m 0), (5, .int .i64 2), (7, .int .i64 0), (40, .bool false)] (by kernel_rfl) rfl ?_
         refine GL.k rfl hK79 (fun _ _ h => h) ?_
         refine G.no rfl ?_
         refine G.skipK hK77 (fun _ _ h => h) ?_
         refine G.region ?_
         refine GL.run (j := 3) 3 [0, 5, 7] [(0, pt m 0), (5, .int .i64 2), (7, .int .i64 (-1))] (by kernel_rfl) rfl ?_
         refine GL.round rfl ?_
         refine G.seqK fun K80 hK81 => ?_
         refine G.seqK fun K82 hK83 => ?_
         refine G.region ?_
         refine GL.run (j := 2) 2 [0, 5, 7, 31] [(0, pt m 0), (5, .int .i64 2), (7, .int .i64 (-1)), (31, .bool false)] (by kernel_rfl) rfl ?_
         refine GL.k rfl hK83 (fun _ _ h => h) ?_
         refine G.no rfl ?_
         refine G.exitK hK52 (fun _ _ h => h) ?_
         have e0 : tkN a0 a1 a2 = 2 := by
           unfold tkN
           repeat' split
           all_goals omega
         have HZ : Hp w S [.blk m [.slice q0 a0.l.length k0, .slice q1 a1.l.length k1, .slice q2 a2.l.length k2, .int .i64 (a0.p : Int), .int .i64 (a1.p : Int), .int .i64 (a2.p : Int), .bool cl] 39, .que q0 a0.l.length k0 9 (mq a0.l), .que q1 a1.l.length k1 9 (mq a1.l), .que q2 a2.l.length k2 9 (mq a2.l)] w39 := by rw [show a0.p = 0 from hz0.1 (by omega), show a1.p = 0 from hz1.1 (by omega)]; exact H41
         refine G.fit [0, 5] (M' := [(0, pt m 0), (5, .int .i64 2)]) (by kernel_rfl) ?_
         exact J50 () _ ⟨trivial, HZ⟩
       · skip
         have hb63f := of_decide_eq_true hb63
         refine G.yes rfl ?_
         refine G.region ?_
         refine GL.run (j := 2) 2 [0, 5, 7] [(0, pt m 0), (5, .int .i64 2), (7, .int .i64 2)] (by kernel_rfl) rfl ?_
         refine GL.k rfl hK60 (fun _ _ h => h) ?_
         refine G.region ?_
         refine GL.run (j := 3) 3 [0, 5, 7] [(0, pt m 0), (5, .int .i64 2), (7, .int .i64 1)] (by kernel_rfl) rfl ?_
         refine GL.round rfl ?_
         refine G.seqK fun K84 hK85 => ?_
         refine G.seqK fun K86 hK87 => ?_
         refine G.region ?_
         refine GL.run (j := 2) 2 [0, 5, 7, 31] [(0, pt m 0), (5, .int .i64 2), (7, .int .i64 1), (31, .bool true)] (by kernel_rfl) rfl ?_
         refine GL.k rfl hK87 (fun _ _ h => h) ?_
         refine G.yes rfl ?_
         refine G.skipK hK85 (fun _ _ h => h) ?_
         refine G.seqK fun K88 hK89 => ?_
         refine G.block ?_
         refine G.seqK fun K90 hK91 => ?_
         refine G.region ?_
         refine GL.run (j := 5) 5 [0, 5, 7, 38] [(0, pt m 0), (5, .int .i64 2), (7, .int .i64 1), (38, pt m 4)] (by kernel_rfl) rfl ?_
         refine GL.sem (j := 6) (H41.ld (o := 4) (ty := 3) (v := .int .i64 0) 0 rfl (by kernel_rfl) rfl) [0, 5, 7, 39] [(0, pt m 0), (5, .int .i64 2), (7, .int .i64 1), (39, .int .i64 0)] (by kernel_rfl) (by kernel_rfl) rfl ?_
         refine GL.run (j := 7) 1 [0, 5, 7, 40] [(0, pt m 0), (5, .int .i64 2), (7, .int .i64 1), (40, .bool false)] (by kernel_rfl) rfl ?_
         refine GL.k rfl hK91 (fun _ _ h => h) ?_
         refine G.no rfl ?_
         refine G.skipK hK89 (fun _ _ h => h) ?_
         refine G.region ?_
         refine GL.run (j := 3) 3 [0, 5, 7] [(0, pt m 0), (5, .int .i64 2), (7, .int .i64 0)] (by kernel_rfl) rfl ?_
         refine GL.round rfl ?_
         refine G.seqK fun K92 hK93 => ?_
         refine G.seqK fun K94 hK95 => ?_
         refine G.region ?_
         refine GL.run (j := 2) 2 [0, 5, 7, 31] [(0, pt m 0), (5, .int .i64 2), (7, .int .i64 0), (31, .bool true)] (by kernel_rfl) rfl ?_
         refine GL.k rfl hK95 (fun _ _ h => h) ?_
         refine G.yes rfl ?_
         refine G.skipK hK93 (fun _ _ h => h) ?_
         refine G.seqK fun K96 hK97 => ?_
         refine G.block ?_
         refine G.seqK fun K98 hK99 => ?_
         refine G.region ?_
         refine GL.run (j := 5) 5 [0, 5, 7, 38] [(0, pt m 0), (5, .int .i64 2), (7, .int .i64 0), (38, pt m 3)] (by kernel_rfl) rfl ?_
         refine GL.sem (j := 6) (H41.ld (o := 3) (ty := 3) (v := .int .i64 0) 0 rfl (by kernel_rfl) rfl) [0, 5, 7, 39] [(0, pt m 0), (5, .int .i64 2), (7, .int .i64 0), (39, .int .i64 0)] (by kernel_rfl) (by kernel_rfl) rfl ?_
         refine GL.run (j := 7) 1 [0, 5, 7, 40] [(0, pt m 0), (5, .int .i64 2), (7, .int .i64 0), (40, .bool false)] (by kernel_rfl) rfl ?_
         refine GL.k rfl hK99 (fun _ _ h => h) ?_
         refine G.no rfl ?_
         refine G.skipK hK97 (fun _ _ h => h) ?_
         refine G.region ?_
         refine GL.run (j := 3) 3 [0, 5, 7] [(0, pt m 0), (5, .int .i64 2), (7, .int .i64 (-1))] (by kernel_rfl) rfl ?_
         refine GL.round rfl ?_
         refine G.seqK fun K100 hK101 => ?_
         refine G.seqK fun K102 hK103 => ?_
         refine G.region ?_
         refine GL.run (j := 2) 2 [0, 5, 7, 31] [(0, pt m 0), (5, .int .i64 2), (7, .int .i64 (-1)), (31, .bool false)] (by kernel_rfl) rfl ?_
         refine GL.k rfl hK103 (fun _ _ h => h) ?_
         refine G.no rfl ?_
         refine G.exitK hK52 (fun _ _ h => h) ?_
         have e0 : tkN a0 a1 a2 = 2 := by
           unfold tkN
           repeat' split
           all_goals omega
         have HZ : Hp w S [.blk m [.slice q0 a0.l.length k0, .slice q1 a1.l.length k1, .slice q2 a2.l.length k2, .int .i64 (a0.p : Int), .int .i64 (a1.p : Int), .int .i64 (a2.p : Int), .bool cl] 39, .que q0 a0.l.length k0 9 (mq a0.l), .que q1 a1.l.length k1 9 (mq a1.l), .que q2 a2.l.length k2 9 (mq a2.l)] w39 := by rw [show a0.p = 0 from hz0.1 (by omega), show a1.p = 0 from hz1.1 (by omega)]; exact H41
         refine G.fit [0, 5] (M' := [(0, pt m 0), (5, .int .i64 2)]) (by kernel_rfl) ?_
         exact J50 () _ ⟨trivial, HZ⟩
     · skip
       rintro _ w104 ⟨hi105, H106⟩
       refine G.eq (M' := [(0, pt m 0), (5, .int .i64 2)]) rfl ?_
       have H106 : Hp w S [.blk m [.slice q0 a0.l.length k0, .slice q1 a1.l.length k1, .slice q2 a2.l.length k2, .int .i64 (a0.p : Int), .int .i64 (a1.p : Int), .int .i64 (a2.p : Int), .bool cl] 39, .que q0 a0.l.length k0 9 (mq a0.l), .que q1 a1.l.length k1 9 (mq a1.l), .que q2 a2.l.length k2 9 (mq a2.l)] w104 := H106
       refine G.seqK fun K107 hK108 => ?_
       refine G.seqK fun K109 hK110 => ?_
       refine G.region ?_
       refine GL.run (j := 1) 1 [0, 5, 42] [(0, pt m 0), (5, .int .i64 2), (42, .int .i64 0)] (by kernel_rfl) rfl ?_
       refine GL.k rfl hK110 (fun _ _ h => h) ?_
       refine G.block ?_
       refine G.unroll 3 ?_
       refine G.seqK fun K111 hK112 => ?_
       refine G.region ?_
       refine GL.run (j := 1) 1 [0, 5, 42, 43] [(0, pt m 0), (5, .int .i64 2), (42, .int .i64 0), (43, .bool true)] (by kernel_rfl) rfl ?_
       refine GL.k rfl hK112 (fun _ _ h => h) ?_
       refine G.seqK fun K113 hK114 => ?_
       refine G.yes rfl ?_
       refine G.skipK hK114 (fun _ _ h => h) ?_
       refine G.seqK fun K115 hK116 => ?_
       refine G.block ?_
       refine G.seqK fun K117 hK118 => ?_
       refine G.region ?_
       refine GL.run (j := 2) 2 [0, 5, 8, 42] [(0, pt m 0), (5, .int .i64 2), (8, .int .i64 0), (42, .int .i64 0)] (by kernel_rfl) rfl ?_
       refine GL.k rfl hK118 (fun _ _ h => h) ?_
       refine G.seqK fun K119 hK120 => ?_
       refine G.region ?_
       refine GL.run (j := 5) 5 [0, 5, 8, 42, 49] [(0, pt m 0), (5, .int .i64 2), (8, .int .i64 0), (42, .int .i64 0), (49, pt m 0)] (by kernel_rfl) rfl ?_
       refine GL.sem (j := 6) (H106.ld (o := 0) (ty := 36) (v := .slice q0 a0.l.length k0) 0 rfl (by kernel_rfl) rfl) [0, 5, 8, 42, 50] [(0, pt m 0), (5, .int .i64 2), (8, .int .i64 0), (42, .int .i64 0), (50, .slice q0 a0.l.length k0)] (by kernel_rfl) (by kernel_rfl) rfl ?_
       refine GL.run (j := 8) 2 [0, 5, 8, 42, 52] [(0, pt m 0), (5, .int .i64 2), (8, .int .i64 0), (42, .int .i64 0), (52, .bool (decide (0 < (a0.l.length : Int))))] (by kernel_rfl) rfl ?_
       refine GL.k rfl hK120 (fun _ _ h => h) ?_
       have hb121 : (decide (0 < (a0.l.length : Int))) = false := by assumption
       rw [hb121]
       refine G.no rfl ?_
       refine G.skipK hK116 (fun _ _ h => h) ?_
       refine G.region ?_
       refine GL.run (j := 2) 2 [0, 5, 42] [(0, pt m 0), (5, .int .i64 2), (42, .int .i64 1)] (by kernel_rfl) rfl ?_
       refine GL.round rfl ?_
       refine G.seqK fun K122 hK123 => ?_
       refine G.region ?_
       refine GL.run (j := 1) 1 [0, 5, 42, 43] [(0, pt m 0), (5, .int .i64 2), (42, .int .i64 1), (43, .bool true)] (by kernel_rfl) rfl ?_
       refine GL.k rfl hK123 (fun _ _ h => h) ?_
       refine G.seqK fun K124 hK125 => ?_
       refine G.yes rfl ?_
       refine G.skipK hK125 (fun _ _ h => h) ?_
       refine G.seqK fun K126 hK127 => ?_
       refine G.block ?_
       refine G.seqK fun K128 hK129 => ?_
       refine G.region ?_
       refine GL.run (j := 2) 2 [0, 5, 8, 42] [(0, pt m 0), (5, .int .i64 2), (8, .int .i64 1), (42, .int .i64 1)] (by kernel_rfl) rfl ?_
       refine GL.k rfl hK129 (fun _ _ h => h) ?_
       refine G.seqK fun K130 hK131 => ?_
       refine G.region ?_
       refine GL.run (j := 5) 5 [0, 5, 8, 42, 49] [(0, pt m 0), (5, .int .i64 2), (8, .int .i64 1), (42, .int .i64 1), (49, pt m 1)] (by kernel_rfl) rfl ?_
       refine GL.sem (j := 6) (H106.ld (o := 1) (ty := 36) (v := .slice q1 a1.l.length k1) 0 rfl (by kernel_rfl) rfl) [0, 5, 8, 42, 50] [(0, pt m 0), (5, .int .i64 2), (8, .int .i64 1), (42, .int .i64 1), (50, .slice q1 a1.l.length k1)] (by kernel_rfl) (by kernel_rfl) rfl ?_
       refine GL.run (j := 8) 2 [0, 5, 8, 42, 52] [(0, pt m 0), (5, .int .i64 2), (8, .int .i64 1), (42, .int .i64 1), (52, .bool (decide (0 < (a1.l.length : Int))))] (by kernel_rfl) rfl ?_
       refine GL.k rfl hK131 (fun _ _ h => h) ?_
       have hb132 : (decide (0 < (a1.l.length : Int))) = false := by assumption
       rw [hb132]
       refine G.no rfl ?_
       refine G.skipK hK127 (fun _ _ h => h) ?_
       refine G.region ?_
       refine GL.run (j := 2) 2 [0, 5, 42] [(0, pt m 0), (5, .int .i64 2), (42, .int .i64 2)] (by kernel_rfl) rfl ?_
       refine GL.round rfl ?_
       refine G.seqK fun K133 hK134 => ?_
       refine G.region ?_
       refine GL.run (j := 1) 1 [0, 5, 42, 43] [(0, pt m 0), (5, .int .i64 2), (42, .int .i64 2), (43, .bool true)] (by kernel_rfl) rfl ?_
       refine GL.k rfl hK134 (fun _ _ h => h) ?_
       refine G.seqK fun K135 hK136 => ?_
       refine G.yes rfl ?_
       refine G.skipK hK136 (fun _ _ h => h) ?_
       refine G.seqK fun K137 hK138 => ?_
       refine G.block ?_
       refine G.seqK fun K139 hK140 => ?_
       refine G.region ?_
       refine GL.run (j := 2) 2 [0, 5, 8, 42] [(0, pt m 0), (5, .int .i64 2), (8, .int .i64 2), (42, .int .i64 2)] (by kernel_rfl) rfl ?_
       refine GL.k rfl hK140 (fun _ _ h => h) ?_
       refine G.seqK fun K141 hK142 => ?_
       refine G.region ?_
       refine GL.run (j := 5) 5 [0, 5, 8, 42, 49] [(0, pt m 0), (5, .int .i64 2), (8, .int .i64 2), (42, .int .i64 2), (49, pt m 2)] (by kernel_rfl) rfl ?_
       refine GL.sem (j := 6) (H106.ld (o := 2) (ty := 36) (v := .slice q2 a2.l.length k2) 0 rfl (by kernel_rfl) rfl) [0, 5, 8, 42, 50] [(0, pt m 0), (5, .int .i64 2), (8, .int .i64 2), (42, .int .i64 2), (50, .slice q2 a2.l.length k2)] (by kernel_rfl) (by kernel_rfl) rfl ?_
       refine GL.run (j := 8) 2 [0, 5, 8, 42, 52] [(0, pt m 0), (5, .int .i64 2), (8, .int .i64 2), (42, .int .i64 2), (52, .bool (decide (0 < (a2.l.length : Int))))] (by kernel_rfl) rfl ?_
       refine GL.k rfl hK142 (fun _ _ h => h) ?_
       have hb143 : (decide (0 < (a2.l.length : Int))) = true := by assumption
       rw [hb143]
       refine G.yes rfl ?_
       refine G.tail 10 (by kernel_rfl) (by kernel_rfl) ?_
       have H144 := H106.drew
       generalize ({ w104 with drawn := w104.drawn + 1 } : World) = w145 at H144 ⊢
       refine GS.run (j := 5) 5 [0, 5, 42, 53, 54, 57] [(0, pt m 0), (5, .int .i64 2), (42, .int .i64 2), (53, pt m 0), (54, .int .i64 2), (57, pt m 5)] (by kernel_rfl) rfl rfl ?_
       refine GS.sem (j := 6) (H144.ld (o := 5) (ty := 3) (v := .int .i64 (a2.p : Int)) 0 rfl (by kernel_rfl) rfl) [0, 5, 42, 53, 54, 58] [(0, pt m 0), (5, .int .i64 2), (42, .int .i64 2), (53, pt m 0), (54, .int .i64 2), (58, .int .i64 (a2.p : Int))] (by kernel_rfl) (by kernel_rfl) rfl rfl ?_
       refine GS.run (j := 10) 4 [0, 5, 42, 59, 62] [(0, pt m 0), (5, .int .i64 2), (42, .int .i64 2), (59, .int .i64 (IntKind.i64.wrap ((a2.p : Int) + 1))), (62, pt m 5)] (by kernel_rfl) rfl rfl ?_
       have e146 : (IntKind.i64.wrap ((a2.p : Int) + 1)) = ((a2.p + 1 : Nat) : Int) := by rw [in_i64 (by omega)]; omega
       refine GS.eq (M' := [(0, pt m 0), (5, .int .i64 2), (42, .int .i64 2), (59, .int .i64 ((a2.p + 1 : Nat) : Int)), (62, pt m 5)]) (by rw [e146]) ?_
       clear e146
       refine GS.tail rfl ?_
       obtain ⟨w147, r148, H149⟩ := H144.st (P := Try.prog) (o := 5) (ty := 3) (v := .int .i64 ((a2.p + 1 : Nat) : Int)) 0 rfl (by kernel_rfl) (by simp) rfl
       have H149 : Hp w S [.blk m [.slice q0 a0.l.length k0, .slice q1 a1.l.length k1, .slice q2 a2.l.length k2, .int .i64 (a0.p : Int), .int .i64 (a1.p : Int), .int .i64 ((a2.p + 1 : Nat) : Int), .bool cl] 39, .que q0 a0.l.length k0 9 (mq a0.l), .que q1 a1.l.length k1 9 (mq a1.l), .que q2 a2.l.length k2 9 (mq a2.l)] w147 := H149
       refine GL.semU (j := 11) r148 [0, 5, 42] [(0, pt m 0), (5, .int .i64 2), (42, .int .i64 2)] (by kernel_rfl) rfl rfl rfl ?_
       refine GL.k rfl hK138 (fun _ _ h => h) ?_
       refine G.region ?_
       refine GL.run (j := 2) 2 [0, 5, 42] [(0, pt m 0), (5, .int .i64 2), (42, .int .i64 3)] (by kernel_rfl) rfl ?_
       refine GL.round rfl ?_
       refine G.seqK fun K150 hK151 => ?_
       refine G.region ?_
       refine GL.run (j := 1) 1 [0, 5, 42, 43] [(0, pt m 0), (5, .int .i64 2), (42, .int .i64 3), (43, .bool false)] (by kernel_rfl) rfl ?_
       refine GL.k rfl hK151 (fun _ _ h => h) ?_
       refine G.seqK fun K152 hK153 => ?_
       refine G.no rfl ?_
       refine G.exitK hK108 (fun _ _ h => h) ?_
       refine G.seqK fun K154 hK155 => ?_
       refine G.region ?_
       refine GL.run (j := 5) 5 [0, 5, 68] [(0, pt m 0), (5, .int .i64 2), (68, pt m 5)] (by kernel_rfl) rfl ?_
       obtain ⟨w156, r157, H158⟩ := H149.st (P := Try.prog) (o := 5) (ty := 3) (v := .int .i64 0) 0 rfl (by kernel_rfl) (by simp) rfl
       have H158 : Hp w S [.blk m [.slice q0 a0.l.length k0, .slice q1 a1.l.length k1, .slice q2 a2.l.length k2, .int .i64 (a0.p : Int), .int .i64 (a1.p : Int), .int .i64 0, .bool cl] 39, .que q0 a0.l.length k0 9 (mq a0.l), .que q1 a1.l.length k1 9 (mq a1.l), .que q2 a2.l.length k2 9 (mq a2.l)] w156 := H158
       refine GL.semU (j := 6) r157 [0, 5] [(0, pt m 0), (5, .int .i64 2)] (by kernel_rfl) rfl rfl rfl ?_
       refine GL.k rfl hK155 (fun _ _ h => h) ?_
       refine G.seqK fun K159 hK160 => ?_
       refine G.region ?_
       refine GL.run (j := 5) 5 [0, 5, 73] [(0, pt m 0), (5, .int .i64 2), (73, pt m 2)] (by kernel_rfl) rfl ?_
       refine GL.sem (j := 6) (H158.ld (o := 2) (ty := 36) (v := .slice q2 a2.l.length k2) 0 rfl (by kernel_rfl) rfl) [0, 5, 74] [(0, pt m 0), (5, .int .i64 2), (74, .slice q2 a2.l.length k2)] (by kernel_rfl) (by kernel_rfl) rfl ?_
       refine GL.sem (j := 7) (run_idxRd (P := Try.prog) (k := .i64) (t := 36) (A := q2) (len := a2.l.length) (cap := k2) (j := 0) (by kernel_rfl) rfl (H158.rdQue 3 rfl) (mq_length _) (by omega)) [0, 5, 75] [(0, pt m 0), (5, .int .i64 2), (75, .pointer (Option.map (fun x => Addr.add x 0) q2))] (by kernel_rfl) (by kernel_rfl) rfl ?_
       refine GL.sem (j := 8) (run_ldRd (P := Try.prog) (ty := 9) (A := q2) (j := 0) (v := .string (strOf m_.b)) (by kernel_rfl) (H158.rdQue 3 rfl) (by rw [hmq]; rfl)) [0, 5, 76] [(0, pt m 0), (5, .int .i64 2), (76, .string (strOf m_.b))] (by kernel_rfl) (by kernel_rfl) rfl ?_
       refine GL.run (j := 9) 1 [0, 5, 9] [(0, pt m 0), (5, .int .i64 2), (9, .string (strOf m_.b))] (by kernel_rfl) rfl ?_
       refine GL.k rfl hK160 (fun _ _ h => h) ?_
       refine G.seqK fun K161 hK162 => ?_
       refine G.tail 12 (by kernel_rfl) (by kernel_rfl) ?_
       have H163 := H158.drew
       generalize ({ w156 with drawn := w156.drawn + 1 } : World) = w164 at H163 ⊢
       refine GS.run (j := 7) 7 [5, 9, 77, 78, 83] [(5, .int .i64 2), (9, .string (strOf m_.b)), (77, pt m 0), (78, .int .i64 2), (83, pt m 2)] (by kernel_rfl) rfl rfl ?_
       refine GS.sem (j := 8) (H163.ld (o := 2) (ty := 36) (v := .slice q2 a2.l.length k2) 0 rfl (by kernel_rfl) rfl) [5, 9, 77, 78, 84] [(5, .int .i64 2), (9, .string (strOf m_.b)), (77, pt m 0), (78, .int .i64 2), (84, .slice q2 a2.l.length k2)] (by kernel_rfl) (by kernel_rfl) rfl rfl ?_
       refine GS.sem (j := 9) (run_tail1 (P := Try.prog) (t := 36) (n := a2.l.length) (c := k2) (A := q2) (by kernel_rfl) (by omega) (by omega)) [5, 9, 77, 78, 85] [(5, .int .i64 2), (9, .string (strOf m_.b)), (77, pt m 0), (78, .int .i64 2), (85, .slice (if k2 = 1 then q2 else q2.map fun a => Addr.add a 1) (a2.l.length - 1) (k2 - 1))] (by kernel_rfl) (by kernel_rfl) rfl rfl ?_
       refine GS.run (j := 12) 3 [5, 9, 85, 88] [(5, .int .i64 2), (9, .string (strOf m_.b)), (85, .slice (if k2 = 1 then q2 else q2.map fun a => Addr.add a 1) (a2.l.length - 1) (k2 - 1)), (88, pt m 2)] (by kernel_rfl) rfl rfl ?_
       refine GS.tail rfl ?_
       obtain ⟨w165, r166, H167⟩ := H163.st (P := Try.prog) (o := 2) (ty := 36) (v := .slice (if k2 = 1 then q2 else q2.map fun a => Addr.add a 1) (a2.l.length - 1) (k2 - 1)) 0 rfl (by kernel_rfl) (by simp) rfl
       have H167 : Hp w S [.blk m [.slice q0 a0.l.length k0, .slice q1 a1.l.length k1, .slice (if k2 = 1 then q2 else q2.map fun a => Addr.add a 1) (a2.l.length - 1) (k2 - 1), .int .i64 (a0.p : Int), .int .i64 (a1.p : Int), .int .i64 0, .bool cl] 39, .que q0 a0.l.length k0 9 (mq a0.l), .que q1 a1.l.length k1 9 (mq a1.l), .que q2 a2.l.length k2 9 (mq a2.l)] w165 := H167
       refine GL.semU (j := 13) r166 [5, 9] [(5, .int .i64 2), (9, .string (strOf m_.b))] (by kernel_rfl) rfl rfl rfl ?_
       refine GL.k rfl hK162 (fun _ _ h => h) ?_
       refine G.seqK fun K168 hK169 => ?_
       refine G.region ?_
       refine GL.run (j := 5) 5 [2, 3, 4] [(2, .string (strOf m_.b)), (3, .int .i64 2), (4, .bool true)] (by kernel_rfl) rfl ?_
       refine GL.k rfl hK169 (fun _ _ h => h) ?_
       refine G.ret ?_
       intro F_ hF_ hM_
       refine hRet _ _ (bodyPost_3 rfl (RV.tmp rfl) (RV.tmp rfl) (RV.tmp rfl) ?_ F_ hF_ hM_)
       have HT := H167.queTail 3 (x := .string (strOf m_.b)) (xs := mq t_) (by rw [← hmq]; rfl) (by rw [mq_length, hlk]; rfl)
       have HZ : Hp w S [.blk m [.slice q0 a0.pass.l.length k0, .slice q1 a1.pass.l.length k1, .slice (if k2 = 1 then q2 else q2.map fun a => Addr.add a 1) ((a2.took t_).l.length) (k2 - 1), .int .i64 (a0.pass.p : Int), .int .i64 (a1.pass.p : Int), .int .i64 (((a2.took t_).p : Nat) : Int), .bool cl] 39, .que q0 a0.pass.l.length k0 9 (mq a0.pass.l), .que q1 a1.pass.l.length k1 9 (mq a1.pass.l), .que (if k2 = 1 then q2 else q2.map fun a => Addr.add a 1) ((a2.took t_).l.length) (k2 - 1) 9 (mq (a2.took t_).l)] w165 := by rw [show (a2.took t_).l.length = a2.l.length - 1 by rw [hlk]; rfl, show a0.pass.p = a0.p by unfold Lane.pass; exact if_pos (by omega), show a1.pass.p = a1.p by unfold Lane.pass; exact if_pos (by omega)]; exact HT
       exact ⟨_, _, rfl, HZ⟩
   · skip
     have hb38f := of_decide_eq_true hb38
     refine G.yes rfl ?_
     refine G.region ?_
     refine GL.run (j := 2) 2 [0, 5, 6] [(0, pt m 0), (5, .int .i64 0), (6, .int .i64 0)] (by kernel_rfl) rfl ?_
     refine GL.k rfl hK35 (fun _ _ h => h) ?_
     refine G.region ?_
     refine GL.run (j := 3) 3 [0, 5, 6] [(0, pt m 0), (5, .int .i64 0), (6, .int .i64 (-1))] (by kernel_rfl) rfl ?_
     refine GL.round rfl ?_
     refine G.seqK fun K170 hK171 => ?_
     refine G.seqK fun K172 hK173 => ?_
     refine G.region ?_
     refine GL.run (j := 2) 2 [0, 5, 6, 11] [(0, pt m 0), (5, .int .i64 0), (6, .int .i64 (-1)), (11, .bool false)] (by kernel_rfl) rfl ?_
     refine GL.k rfl hK173 (fun _ _ h => h) ?_
     refine G.no rfl ?_
     refine G.exitK hK6 (fun _ _ h => h) ?_
     refine G.seqK fun K174 hK175 => ?_
     refine G.seqK fun K176 hK177 => ?_
     refine G.region ?_
     refine GL.run (j := 2) 2 [0, 5, 29] [(0, pt m 0), (5, .int .i64 0), (29, .bool false)] (by kernel_rfl) rfl ?_
     refine GL.k rfl hK177 (fun _ _ h => h) ?_
     refine G.no rfl ?_
     refine G.skipK hK175 (fun _ _ h => h) ?_
     refine G.seqJ (X := Unit) (fun _ => [(0, pt m 0), (5, .int .i64 2)]) (fun _ w_ => (True) ∧ Hp w S [.blk m [.slice q0 a0.l.length k0, .slice q1 a1.l.length k1, .slice q2 a2.l.length k2, .int .i64 (a0.p : Int), .int .i64 (a1.p : Int), .int .i64 (a2.p : Int), .bool cl] 39, .que q0 a0.l.length k0 9 (mq a0.l), .que q1 a1.l.length k1 9 (mq a1.l), .que q2 a2.l.length k2 9 (mq a2.l)] w_) (fun J178 K179 hK180 => ?_) ?_
     · skip
       refine G.seqK fun K181 hK182 => ?_
       refine G.region ?_
       refine GL.run (j := 1) 1 [0, 5, 7] [(0, pt m 0), (5, .int .i64 0), (7, .int .i64 2)] (by kernel_rfl) rfl ?_
       refine GL.k rfl hK182 (fun _ _ h => h) ?_
       refine G.block ?_
       refine G.unroll 3 ?_
       refine G.seqK fun K183 hK184 => ?_
       refine G.seqK fun K185 hK186 => ?_
       refine G.region ?_
       refine GL.run (j := 2) 2 [0, 5, 7, 31] [(0, pt m 0), (5, .int .i64 0), (7, .int .i64 2), (31, .bool true)] (by kernel_rfl) rfl ?_
       refine GL.k rfl hK186 (fun _ _ h => h) ?_
       refine G.yes rfl ?_
       refine G.skipK hK184 (fun _ _ h => h) ?_
       refine G.seqK fun K187 hK188 => ?_
       refine G.block ?_
       refine G.seqK fun K189 hK190 => ?_
       refine G.region ?_
       refine GL.run (j := 5) 5 [0, 5, 7, 38] [(0, pt m 0), (5, .int .i64 0), (7, .int .i64 2), (38, pt m 5)] (by kernel_rfl) rfl ?_
       refine GL.sem (j := 6) (H29.ld (o := 5) (ty := 3) (v := .int .i64 (a2.p : Int)) 0 rfl (by kernel_rfl) rfl) [0, 5, 7, 39] [(0, pt m 0), (5, .int .i64 0), (7, .int .i64 2), (39, .int .i64 (a2.p : Int))] (by kernel_rfl) (by kernel_rfl) rfl ?_
       refine GL.run (j := 7) 1 [0, 5, 7, 40] [(0, pt m 0), (5, .int .i64 0), (7, .int .i64 2), (40, .bool (decide (4 ≤ (a2.p : Int))))] (by kernel_rfl) rfl ?_
       refine GL.k rfl hK190 (fun _ _ h => h) ?_
       cases hb191 : (decide (4 ≤ (a2.p : Int)))
       · skip
         have hb191f := of_decide_eq_false hb191
         refine G.no rfl ?_
         refine G.skipK hK188 (fun _ _ h => h) ?_
         refine G.region ?_
         refine GL.run (j := 3) 3 [0, 5, 7] [(0, pt m 0), (5, .int .i64 0), (7, .int .i64 1)] (by kernel_rfl) rfl ?_
         refine GL.round rfl ?_
         refine G.seqK fun K192 hK193 => ?_
         refine G.seqK fun K194 hK195 => ?_
         refine G.region ?_
         refine GL.run (j := 2) 2 [0, 5, 7, 31] [(0, pt m 0), (5, .int .i64 0), (7, .int .i64 1), (31, .bool true)] (by kernel_rfl) rfl ?_
         refine GL.k rfl hK195 (fun _ _ h => h) ?_
         refine G.yes rfl ?_
         refine G.skipK hK193 (fun _ _ h => h) ?_
         refine G.seqK fun K196 hK197 => ?_
         refine G.block ?_
         refine G.seqK fun K198 hK199 => ?_
         refine G.region ?_
         refine GL.run (j := 5) 5 [0, 5, 7, 38] [(0, pt m 0), (5, .int .i64 0), (7, .int .i64 1), (38, pt m 4)] (by kernel_rfl) rfl ?_
         refine GL.sem (j := 6) (H29.ld (o := 4) (ty := 3) (v := .int .i64 0) 0 rfl (by kernel_rfl) rfl) [0, 5, 7, 39] [(0, pt m 0), (5, .int .i64 0), (7, .int .i64 1), (39, .int .i64 0)] (by kernel_rfl) (by kernel_rfl) rfl ?_
         refine GL.run (j := 7) 1 [0, 5, 7, 40] [(0, pt m 0), (5, .int .i64 0), (7, .int .i64 1), (40, .bool false)] (by kernel_rfl) rfl ?_
         refine GL.k rfl hK199 (fun _ _ h => h) ?_
         refine G.no rfl ?_
         refine G.skipK hK197 (fun _ _ h => h) ?_
         refine G.region ?_
         refine GL.run (j := 3) 3 [0, 5, 7] [(0, pt m 0), (5, .int .i64 0), (7, .int .i64 0)] (by kernel_rfl) rfl ?_
         refine GL.round rfl ?_
         refine G.seqK fun K200 hK201 => ?_
         refine G.seqK fun K202 hK203 => ?_
         refine G.region ?_
         refine GL.run (j := 2) 2 [0, 5, 7, 31] [(0, pt m 0), (5, .int .i64 0), (7, .int .i64 0), (31, .bool true)] (by kernel_rfl) rfl ?_
         refine GL.k rfl hK203 (fun _ _ h => h) ?_
         refine G.yes rfl ?_
         refine G.skipK hK201 (fun _ _ h => h) ?_
         refine G.seqK fun K204 hK205 => ?_
         refine G.block ?_
         refine G.seqK fun K206 hK207 => ?_
         refine G.region ?_
         refine GL.run (j := 5) 5 [0, 5, 7, 38] [(0, pt m 0), (5, .int .i64 0), (7, .int .i64 0), (38, pt m 3)] (by kernel_rfl) rfl ?_
         refine GL.sem (j := 6) (H29.ld (o := 3) (ty := 3) (v := .int .i64 (a0.p : Int)) 0 rfl (by kernel_rfl) rfl) [0, 5, 7, 39] [(0, pt m 0), (5, .int .i64 0), (7, .int .i64 0), (39, .int .i64 (a0.p : Int))] (by kernel_rfl) (by kernel_rfl) rfl ?_
         refine GL.run (j := 7) 1 [0, 5, 7, 40] [(0, pt m 0), (5, .int .i64 0), (7, .int .i64 0), (40, .bool (decide (4 ≤ (a0.p : Int))))] (by kernel_rfl) rfl ?_
         refine GL.k rfl hK207 (fun _ _ h => h) ?_
         cases hb208 : (decide (4 ≤ (a0.p : Int)))
         · skip
           have hb208f := of_decide_eq_false hb208
           refine G.no rfl ?_
           refine G.skipK hK205 (fun _ _ h => h) ?_
           refine G.region ?_
           refine GL.run (j := 3) 3 [0, 5, 7] [(0, pt m 0), (5, .int .i64 0), (7, .int .i64 (-1))] (by kernel_rfl) rfl ?_
           refine GL.round rfl ?_
           refine G.seqK fun K209 hK210 => ?_
           refine G.seqK fun K211 hK212 => ?_
           refine G.region ?_
           refine GL.run (j := 2) 2 [0, 5, 7, 31] [(0, pt m 0), (5, .int .i64 0), (7, .int .i64 (-1)), (31, .bool false)] (by kernel_rfl) rfl ?_
           refine GL.k rfl hK212 (fun _ _ h => h) ?_
           refine G.no rfl ?_
           refine G.exitK hK180 (fun _ _ h => h) ?_
           have e0 : tkN a0 a1 a2 = 0 := by
             unfold tkN
             repeat' split
             all_goals omega
           exact absurd (htk.symm.trans e0) (by decide)
         · skip
           have hb208f := of_decide_eq_true hb208
           refine G.yes rfl ?_
           refine G.region ?_
           refine GL.run (j := 2) 2 [0, 5, 7] [(0, pt m 0), (5, .int .i64 0), (7, .int .i64 0)] (by kernel_rfl) rfl ?_
           refine GL.k rfl hK205 (fun _ _ h => h) ?_
           refine G.region ?_
           refine GL.run (j := 3) 3 [0, 5, 7] [(0, pt m 0), (5, .int .i64 0), (7, .int .i64 (-1))] (by kernel_rfl) rfl ?_
           refine GL.round rfl ?_
           refine G.seqK fun K213 hK214 => ?_
           refine G.seqK fun K215 hK216 => ?_
           refine G.region ?_
           refine GL.run (j := 2) 2 [0, 5, 7, 31] [(0, pt m 0), (5, .int .i64 0), (7, .int .i64 (-1)), (31, .bool false)] (by kernel_rfl) rfl ?_
           refine GL.k rfl hK216 (fun _ _ h => h) ?_
           refine G.no rfl ?_
           refine G.exitK hK180 (fun _ _ h => h) ?_
           have e0 : tkN a0 a1 a2 = 0 := by
             unfold tkN
             repeat' split
             all_goals omega
           exact absurd (htk.symm.trans e0) (by decide)
       · skip
         have hb191f := of_decide_eq_true hb191
         refine G.yes rfl ?_
         refine G.region ?_
         refine GL.run (j := 2) 2 [0, 5, 7] [(0, pt m 0), (5, .int .i64 2), (7, .int .i64 2)] (by kernel_rfl) rfl ?_
         refine GL.k rfl hK188 (fun _ _ h => h) ?_
         refine G.region ?_
         refine GL.run (j := 3) 3 [0, 5, 7] [(0, pt m 0), (5, .int .i64 2), (7, .int .i64 1)] (by kernel_rfl) rfl ?_
         refine GL.round rfl ?_
         refine G.seqK fun K217 hK218 => ?_
         refine G.seqK fun K219 hK220 => ?_
         refine G.region ?_
         refine GL.run (j := 2) 2 [0, 5, 7, 31] [(0, pt m 0), (5, .int .i64 2), (7, .int .i64 1), (31, .bool true)] (by kernel_rfl) rfl ?_
         refine GL.k rfl hK220 (fun _ _ h => h) ?_
         refine G.yes rfl ?_
         refine G.skipK hK218 (fun _ _ h => h) ?_
         refine G.seqK fun K221 hK222 => ?_
         refine G.block ?_
         refine G.seqK fun K223 hK224 => ?_
         refine G.region ?_
         refine GL.run (j := 5) 5 [0, 5, 7, 38] [(0, pt m 0), (5, .int .i64 2), (7, .int .i64 1), (38, pt m 4)] (by kernel_rfl) rfl ?_
         refine GL.sem (j := 6) (H29.ld (o := 4) (ty := 3) (v := .int .i64 0) 0 rfl (by kernel_rfl) rfl) [0, 5, 7, 39] [(0, pt m 0), (5, .int .i64 2), (7, .int .i64 1), (39, .int .i64 0)] (by kernel_rfl) (by kernel_rfl) rfl ?_
         refine GL.run (j := 7) 1 [0, 5, 7, 40] [(0, pt m 0), (5, .int .i64 2), (7, .int .i64 1), (40, .bool false)] (by kernel_rfl) rfl ?_
         refine GL.k rfl hK224 (fun _ _ h => h) ?_
         refine G.no rfl ?_
         refine G.skipK hK222 (fun _ _ h => h) ?_
         refine G.region ?_
         refine GL.run (j := 3) 3 [0, 5, 7] [(0, pt m 0), (5, .int .i64 2), (7, .int .i64 0)] (by kernel_rfl) rfl ?_
         refine GL.round rfl ?_
         refine G.seqK fun K225 hK226 => ?_
         refine G.seqK fun K227 hK228 => ?_
         refine G.region ?_
         refine GL.run (j := 2) 2 [0, 5, 7, 31] [(0, pt m 0), (5, .int .i64 2), (7, .int .i64 0), (31, .bool true)] (by kernel_rfl) rfl ?_
         refine GL.k rfl hK228 (fun _ _ h => h) ?_
         refine G.yes rfl ?_
         refine G.skipK hK226 (fun _ _ h => h) ?_
         refine G.seqK fun K229 hK230 => ?_
         refine G.block ?_
         refine G.seqK fun K231 hK232 => ?_
         refine G.region ?_
         refine GL.run (j := 5) 5 [0, 5, 7, 38] [(0, pt m 0), (5, .int .i64 2), (7, .int .i64 0), (38, pt m 3)] (by kernel_rfl) rfl ?_
         refine GL.sem (j := 6) (H29.ld (o := 3) (ty := 3) (v := .int .i64 (a0.p : Int)) 0 rfl (by kernel_rfl) rfl) [0, 5, 7, 39] [(0, pt m 0), (5, .int .i64 2), (7, .int .i64 0), (39, .int .i64 (a0.p : Int))] (by kernel_rfl) (by kernel_rfl) rfl ?_
         refine GL.run (j := 7) 1 [0, 5, 7, 40] [(0, pt m 0), (5, .int .i64 2), (7, .int .i64 0), (40, .bool (decide (4 ≤ (a0.p : Int))))] (by kernel_rfl) rfl ?_
         refine GL.k rfl hK232 (fun _ _ h => h) ?_
         cases hb233 : (decide (4 ≤ (a0.p : Int)))
         · skip
           have hb233f := of_decide_eq_false hb233
           refine G.no rfl ?_
           refine G.skipK hK230 (fun _ _ h => h) ?_
           refine G.region ?_
           refine GL.run (j := 3) 3 [0, 5, 7] [(0, pt m 0), (5, .int .i64 2), (7, .int .i64 (-1))] (by kernel_rfl) rfl ?_
           refine GL.round rfl ?_
           refine G.seqK fun K234 hK235 => ?_
           refine G.seqK fun K236 hK237 => ?_
           refine G.region ?_
           refine GL.run (j := 2) 2 [0, 5, 7, 31] [(0, pt m 0), (5, .int .i64 2), (7, .int .i64 (-1)), (31, .bool false)] (by kernel_rfl) rfl ?_
           refine GL.k rfl hK237 (fun _ _ h => h) ?_
           refine G.no rfl ?_
           refine G.exitK hK180 (fun _ _ h => h) ?_
           have e0 : tkN a0 a1 a2 = 2 := by
             unfold tkN
             repeat' split
             all_goals omega
           have HZ : Hp w S [.blk m [.slice q0 a0.l.length k0, .slice q1 a1.l.length k1, .slice q2 a2.l.length k2, .int .i64 (a0.p : Int), .int .i64 (a1.p : Int), .int .i64 (a2.p : Int), .bool cl] 39, .que q0 a0.l.length k0 9 (mq a0.l), .que q1 a1.l.length k1 9 (mq a1.l), .que q2 a2.l.length k2 9 (mq a2.l)] w27 := by rw [show a1.p = 0 from hz1.1 (by omega)]; exact H29
           refine G.fit [0, 5] (M' := [(0, pt m 0), (5, .int .i64 2)]) (by kernel_rfl) ?_
           exact J178 () _ ⟨trivial, HZ⟩
         · skip
           have hb233f := of_decide_eq_true hb233
           refine G.yes rfl ?_
           refine G.region ?_
           refine GL.run (j := 2) 2 [0, 5, 7] [(0, pt m 0), (5, .int .i64 0), (7, .int .i64 0)] (by kernel_rfl) rfl ?_
           refine GL.k rfl hK230 (fun _ _ h => h) ?_
           refine G.region ?_
           refine GL.run (j := 3) 3 [0, 5, 7] [(0, pt m 0), (5, .int .i64 0), (7, .int .i64 (-1))] (by kernel_rfl) rfl ?_
           refine GL.round rfl ?_
           refine G.seqK fun K238 hK239 => ?_
           refine G.seqK fun K240 hK241 => ?_
           refine G.region ?_
           refine GL.run (j := 2) 2 [0, 5, 7, 31] [(0, pt m 0), (5, .int .i64 0), (7, .int .i64 (-1)), (31, .bool false)] (by kernel_rfl) rfl ?_
           refine GL.k rfl hK241 (fun _ _ h => h) ?_
           refine G.no rfl ?_
           refine G.exitK hK180 (fun _ _ h => h) ?_
           have e0 : tkN a0 a1 a2 = 0 := by
             unfold tkN
             repeat' split
             all_goals omega
           exact absurd (htk.symm.trans e0) (by decide)
     · skip
       rintro _ w242 ⟨hi243, H244⟩
       refine G.eq (M' := [(0, pt m 0), (5, .int .i64 2)]) rfl ?_
       have H244 : Hp w S [.blk m [.slice q0 a0.l.length k0, .slice q1 a1.l.length k1, .slice q2 a2.l.length k2, .int .i64 (a0.p : Int), .int .i64 (a1.p : Int), .int .i64 (a2.p : Int), .bool cl] 39, .que q0 a0.l.length k0 9 (mq a0.l), .que q1 a1.l.length k1 9 (mq a1.l), .que q2 a2.l.length k2 9 (mq a2.l)] w242 := H244
       refine G.seqK fun K245 hK246 => ?_
       refine G.seqK fun K247 hK248 => ?_
       refine G.region ?_
       refine GL.run (j := 1) 1 [0, 5, 42] [(0, pt m 0), (5, .int .i64 2), (42, .int .i64 0)] (by kernel_rfl) rfl ?_
       refine GL.k rfl hK248 (fun _ _ h => h) ?_
       refine G.block ?_
       refine G.unroll 3 ?_
       refine G.seqK fun K249 hK250 => ?_
       refine G.region ?_
       refine GL.run (j := 1) 1 [0, 5, 42, 43] [(0, pt m 0), (5, .int .i64 2), (42, .int .i64 0), (43, .bool true)] (by kernel_rfl) rfl ?_
       refine GL.k rfl hK250 (fun _ _ h => h) ?_
       refine G.seqK fun K251 hK252 => ?_
       refine G.yes rfl ?_
       refine G.skipK hK252 (fun _ _ h => h) ?_
       refine G.seqK fun K253 hK254 => ?_
       refine G.block ?_
       refine G.seqK fun K255 hK256 => ?_
       refine G.region ?_
       refine GL.run (j := 2) 2 [0, 5, 8, 42] [(0, pt m 0), (5, .int .i64 2), (8, .int .i64 0), (42, .int .i64 0)] (by kernel_rfl) rfl ?_
       refine GL.k rfl hK256 (fun _ _ h => h) ?_
       refine G.seqK fun K257 hK258 => ?_
       refine G.region ?_
       refine GL.run (j := 5) 5 [0, 5, 8, 42, 49] [(0, pt m 0), (5, .int .i64 2), (8, .int .i64 0), (42, .int .i64 0), (49, pt m 0)] (by kernel_rfl) rfl ?_
       refine GL.sem (j := 6) (H244.ld (o := 0) (ty := 36) (v := .slice q0 a0.l.length k0) 0 rfl (by kernel_rfl) rfl) [0, 5, 8, 42, 50] [(0, pt m 0), (5, .int .i64 2), (8, .int .i64 0), (42, .int .i64 0), (50, .slice q0 a0.l.length k0)] (by kernel_rfl) (by kernel_rfl) rfl ?_
       refine GL.run (j := 8) 2 [0, 5, 8, 42, 52] [(0, pt m 0), (5, .int .i64 2), (8, .int .i64 0), (42, .int .i64 0), (52, .bool (decide (0 < (a0.l.length : Int))))] (by kernel_rfl) rfl ?_
       refine GL.k rfl hK258 (fun _ _ h => h) ?_
       have hb259 : (decide (0 < (a0.l.length : Int))) = true := by assumption
       rw [hb259]
       refine G.yes rfl ?_
       refine G.tail 10 (by kernel_rfl) (by kernel_rfl) ?_
       have H260 := H244.drew
       generalize ({ w242 with drawn := w242.drawn + 1 } : World) = w261 at H260 ⊢
       refine GS.run (j := 5) 5 [0, 5, 42, 53, 54, 57] [(0, pt m 0), (5, .int .i64 2), (42, .int .i64 0), (53, pt m 0), (54, .int .i64 0), (57, pt m 3)] (by kernel_rfl) rfl rfl ?_
       refine GS.sem (j := 6) (H260.ld (o := 3) (ty := 3) (v := .int .i64 (a0.p : Int)) 0 rfl (by kernel_rfl) rfl) [0, 5, 42, 53, 54, 58] [(0, pt m 0), (5, .int .i64 2), (42, .int .i64 0), (53, pt m 0), (54, .int .i64 0), (58, .int .i64 (a0.p : Int))] (by kernel_rfl) (by kernel_rfl) rfl rfl ?_
       refine GS.run (j := 10) 4 [0, 5, 42, 59, 62] [(0, pt m 0), (5, .int .i64 2), (42, .int .i64 0), (59, .int .i64 (IntKind.i64.wrap ((a0.p : Int) + 1))), (62, pt m 3)] (by kernel_rfl) rfl rfl ?_
       have e262 : (IntKind.i64.wrap ((a0.p : Int) + 1)) = ((a0.p + 1 : Nat) : Int) := by rw [in_i64 (by omega)]; omega
       refine GS.eq (M' := [(0, pt m 0), (5, .int .i64 2), (42, .int .i64 0), (59, .int .i64 ((a0.p + 1 : Nat) : Int)), (62, pt m 3)]) (by rw [e262]) ?_
       clear e262
       refine GS.tail rfl ?_
       obtain ⟨w263, r264, H265⟩ := H260.st (P := Try.prog) (o := 3) (ty := 3) (v := .int .i64 ((a0.p + 1 : Nat) : Int)) 0 rfl (by kernel_rfl) (by simp) rfl
       have H265 : Hp w S [.blk m [.slice q0 a0.l.length k0, .slice q1 a1.l.length k1, .slice q2 a2.l.length k2, .int .i64 ((a0.p + 1 : Nat) : Int), .int .i64 (a1.p : Int), .int .i64 (a2.p : Int), .bool cl] 39, .que q0 a0.l.length k0 9 (mq a0.l), .que q1 a1.l.length k1 9 (mq a1.l), .que q2 a2.l.length k2 9 (mq a2.l)] w263 := H265
       refine GL.semU (j := 11) r264 [0, 5, 42] [(0, pt m 0), (5, .int .i64 2), (42, .int .i64 0)] (by kernel_rfl) rfl rfl rfl ?_
       refine GL.k rfl hK254 (fun _ _ h => h) ?_
       refine G.region ?_
       refine GL.run (j := 2) 2 [0, 5, 42] [(0, pt m 0), (5, .int .i64 2), (42, .int .i64 1)] (by kernel_rfl) rfl ?_
       refine GL.round rfl ?_
       refine G.seqK fun K266 hK267 => ?_
       refine G.region ?_
       refine GL.run (j := 1) 1 [0, 5, 42, 43] [(0, pt m 0), (5, .int .i64 2), (42, .int .i64 1), (43, .bool true)] (by kernel_rfl) rfl ?_
       refine GL.k rfl hK267 (fun _ _ h => h) ?_
       refine G.seqK fun K268 hK269 => ?_
       refine G.yes rfl ?_
       refine G.skipK hK269 (fun _ _ h => h) ?_
       refine G.seqK fun K270 hK271 => ?_
       refine G.block ?_
       refine G.seqK fun K272 hK273 => ?_
       refine G.region ?_
       refine GL.run (j := 2) 2 [0, 5, 8, 42] [(0, pt m 0), (5, .int .i64 2), (8, .int .i64 1), (42, .int .i64 1)] (by kernel_rfl) rfl ?_
       refine GL.k rfl hK273 (fun _ _ h => h) ?_
       refine G.seqK fun K274 hK275 => ?_
       refine G.region ?_
       refine GL.run (j := 5) 5 [0, 5, 8, 42, 49] [(0, pt m 0), (5, .int .i64 2), (8, .int .i64 1), (42, .int .i64 1), (49, pt m 1)] (by kernel_rfl) rfl ?_
       refine GL.sem (j := 6) (H265.ld (o := 1) (ty := 36) (v := .slice q1 a1.l.length k1) 0 rfl (by kernel_rfl) rfl) [0, 5, 8, 42, 50] [(0, pt m 0), (5, .int .i64 2), (8, .int .i64 1), (42, .int .i64 1), (50, .slice q1 a1.l.length k1)] (by kernel_rfl) (by kernel_rfl) rfl ?_
       refine GL.run (j := 8) 2 [0, 5, 8, 42, 52] [(0, pt m 0), (5, .int .i64 2), (8, .int .i64 1), (42, .int .i64 1), (52, .bool (decide (0 < (a1.l.length : Int))))] (by kernel_rfl) rfl ?_
       refine GL.k rfl hK275 (fun _ _ h => h) ?_
       have hb276 : (decide (0 < (a1.l.length : Int))) = false := by assumption
       rw [hb276]
       refine G.no rfl ?_
       refine G.skipK hK271 (fun _ _ h => h) ?_
       refine G.region ?_
       refine GL.run (j := 2) 2 [0, 5, 42] [(0, pt m 0), (5, .int .i64 2), (42, .int .i64 2)] (by kernel_rfl) rfl ?_
       refine GL.round rfl ?_
       refine G.seqK fun K277 hK278 => ?_
       refine G.region ?_
       refine GL.run (j := 1) 1 [0, 5, 42, 43] [(0, pt m 0), (5, .int .i64 2), (42, .int .i64 2), (43, .bool true)] (by kernel_rfl) rfl ?_
       refine GL.k rfl hK278 (fun _ _ h => h) ?_
       refine G.seqK fun K279 hK280 => ?_
       refine G.yes rfl ?_
       refine G.skipK hK280 (fun _ _ h => h) ?_
       refine G.seqK fun K281 hK282 => ?_
       refine G.block ?_
       refine G.seqK fun K283 hK284 => ?_
       refine G.region ?_
       refine GL.run (j := 2) 2 [0, 5, 8, 42] [(0, pt m 0), (5, .int .i64 2), (8, .int .i64 2), (42, .int .i64 2)] (by kernel_rfl) rfl ?_
       refine GL.k rfl hK284 (fun _ _ h => h) ?_
       refine G.seqK fun K285 hK286 => ?_
       refine G.region ?_
       refine GL.run (j := 5) 5 [0, 5, 8, 42, 49] [(0, pt m 0), (5, .int .i64 2), (8, .int .i64 2), (42, .int .i64 2), (49, pt m 2)] (by kernel_rfl) rfl ?_
       refine GL.sem (j := 6) (H265.ld (o := 2) (ty := 36) (v := .slice q2 a2.l.length k2) 0 rfl (by kernel_rfl) rfl) [0, 5, 8, 42, 50] [(0, pt m 0), (5, .int .i64 2), (8, .int .i64 2), (42, .int .i64 2), (50, .slice q2 a2.l.length k2)] (by kernel_rfl) (by kernel_rfl) rfl ?_
       refine GL.run (j := 8) 2 [0, 5, 8, 42, 52] [(0, pt m 0), (5, .int .i64 2), (8, .int .i64 2), (42, .int .i64 2), (52, .bool (decide (0 < (a2.l.length : Int))))] (by kernel_rfl) rfl ?_
       refine GL.k rfl hK286 (fun _ _ h => h) ?_
       have hb287 : (decide (0 < (a2.l.length : Int))) = true := by assumption
       rw [hb287]
       refine G.yes rfl ?_
       refine G.tail 10 (by kernel_rfl) (by kernel_rfl) ?_
       have H288 := H265.drew
       generalize ({ w263 with drawn := w263.drawn + 1 } : World) = w289 at H288 ⊢
       refine GS.run (j := 5) 5 [0, 5, 42, 53, 54, 57] [(0, pt m 0), (5, .int .i64 2), (42, .int .i64 2), (53, pt m 0), (54, .int .i64 2), (57, pt m 5)] (by kernel_rfl) rfl rfl ?_
       refine GS.sem (j := 6) (H288.ld (o := 5) (ty := 3) (v := .int .i64 (a2.p : Int)) 0 rfl (by kernel_rfl) rfl) [0, 5, 42, 53, 54, 58] [(0, pt m 0), (5, .int .i64 2), (42, .int .i64 2), (53, pt m 0), (54, .int .i64 2), (58, .int .i64 (a2.p : Int))] (by kernel_rfl) (by kernel_rfl) rfl rfl ?_
       refine GS.run (j := 10) 4 [0, 5, 42, 59, 62] [(0, pt m 0), (5, .int .i64 2), (42, .int .i64 2), (59, .int .i64 (IntKind.i64.wrap ((a2.p : Int) + 1))), (62, pt m 5)] (by kernel_rfl) rfl rfl ?_
       have e290 : (IntKind.i64.wrap ((a2.p : Int) + 1)) = ((a2.p + 1 : Nat) : Int) := by rw [in_i64 (by omega)]; omega
       refine GS.eq (M' := [(0, pt m 0), (5, .int .i64 2), (42, .int .i64 2), (59, .int .i64 ((a2.p + 1 : Nat) : Int)), (62, pt m 5)]) (by rw [e290]) ?_
       clear e290
       refine GS.tail rfl ?_
       obtain ⟨w291, r292, H293⟩ := H288.st (P := Try.prog) (o := 5) (ty := 3) (v := .int .i64 ((a2.p + 1 : Nat) : Int)) 0 rfl (by kernel_rfl) (by simp) rfl
       have H293 : Hp w S [.blk m [.slice q0 a0.l.length k0, .slice q1 a1.l.length k1, .slice q2 a2.l.length k2, .int .i64 ((a0.p + 1 : Nat) : Int), .int .i64 (a1.p : Int), .int .i64 ((a2.p + 1 : Nat) : Int), .bool cl] 39, .que q0 a0.l.length k0 9 (mq a0.l), .que q1 a1.l.length k1 9 (mq a1.l), .que q2 a2.l.length k2 9 (mq a2.l)] w291 := H293
       refine GL.semU (j := 11) r292 [0, 5, 42] [(0, pt m 0), (5, .int .i64 2), (42, .int .i64 2)] (by kernel_rfl) rfl rfl rfl ?_
       refine GL.k rfl hK282 (fun _ _ h => h) ?_
       refine G.region ?_
       refine GL.run (j := 2) 2 [0, 5, 42] [(0, pt m 0), (5, .int .i64 2), (42, .int .i64 3)] (by kernel_rfl) rfl ?_
       refine GL.round rfl ?_
       refine G.seqK fun K294 hK295 => ?_
       refine G.region ?_
       refine GL.run (j := 1) 1 [0, 5, 42, 43] [(0, pt m 0), (5, .int .i64 2), (42, .int .i64 3), (43, .bool false)] (by kernel_rfl) rfl ?_
       refine GL.k rfl hK295 (fun _ _ h => h) ?_
       refine G.seqK fun K296 hK297 => ?_
       refine G.no rfl ?_
       refine G.exitK hK246 (fun _ _ h => h) ?_
       refine G.seqK fun K298 hK299 => ?_
       refine G.region ?_
       refine GL.run (j := 5) 5 [0, 5, 68] [(0, pt m 0), (5, .int .i64 2), (68, pt m 5)] (by kernel_rfl) rfl ?_
       obtain ⟨w300, r301, H302⟩ := H293.st (P := Try.prog) (o := 5) (ty := 3) (v := .int .i64 0) 0 rfl (by kernel_rfl) (by simp) rfl
       have H302 : Hp w S [.blk m [.slice q0 a0.l.length k0, .slice q1 a1.l.length k1, .slice q2 a2.l.length k2, .int .i64 ((a0.p + 1 : Nat) : Int), .int .i64 (a1.p : Int), .int .i64 0, .bool cl] 39, .que q0 a0.l.length k0 9 (mq a0.l), .que q1 a1.l.length k1 9 (mq a1.l), .que q2 a2.l.length k2 9 (mq a2.l)] w300 := H302
       refine GL.semU (j := 6) r301 [0, 5] [(0, pt m 0), (5, .int .i64 2)] (by kernel_rfl) rfl rfl rfl ?_
       refine GL.k rfl hK299 (fun _ _ h => h) ?_
       refine G.seqK fun K303 hK304 => ?_
       refine G.region ?_
       refine GL.run (j := 5) 5 [0, 5, 73] [(0, pt m 0), (5, .int .i64 2), (73, pt m 2)] (by kernel_rfl) rfl ?_
       refine GL.sem (j := 6) (H302.ld (o := 2) (ty := 36) (v := .slice q2 a2.l.length k2) 0 rfl (by kernel_rfl) rfl) [0, 5, 74] [(0, pt m 0), (5, .int .i64 2), (74, .slice q2 a2.l.length k2)] (by kernel_rfl) (by kernel_rfl) rfl ?_
       refine GL.sem (j := 7) (run_idxRd (P := Try.prog) (k := .i64) (t := 36) (A := q2) (len := a2.l.length) (cap := k2) (j := 0) (by kernel_rfl) rfl (H302.rdQue 3 rfl) (mq_length _) (by omega)) [0, 5, 75] [(0, pt m 0), (5, .int .i64 2), (75, .pointer (Option.map (fun x => Addr.add x 0) q2))] (by kernel_rfl) (by kernel_rfl) rfl ?_
       refine GL.sem (j := 8) (run_ldRd (P := Try.prog) (ty := 9) (A := q2) (j := 0) (v := .string (strOf m_.b)) (by kernel_rfl) (H302.rdQue 3 rfl) (by rw [hmq]; rfl)) [0, 5, 76] [(0, pt m 0), (5, .int .i64 2), (76, .string (strOf m_.b))] (by kernel_rfl) (by kernel_rfl) rfl ?_
       refine GL.run (j := 9) 1 [0, 5, 9] [(0, pt m 0), (5, .int .i64 2), (9, .string (strOf m_.b))] (by kernel_rfl) rfl ?_
       refine GL.k rfl hK304 (fun _ _ h => h) ?_
       refine G.seqK fun K305 hK306 => ?_
       refine G.tail 12 (by kernel_rfl) (by kernel_rfl) ?_
       have H307 := H302.drew
       generalize ({ w300 with drawn := w300.drawn + 1 } : World) = w308 at H307 ⊢
       refine GS.run (j := 7) 7 [5, 9, 77, 78, 83] [(5, .int .i64 2), (9, .string (strOf m_.b)), (77, pt m 0), (78, .int .i64 2), (83, pt m 2)] (by kernel_rfl) rfl rfl ?_
       refine GS.sem (j := 8) (H307.ld (o := 2) (ty := 36) (v := .slice q2 a2.l.length k2) 0 rfl (by kernel_rfl) rfl) [5, 9, 77, 78, 84] [(5, .int .i64 2), (9, .string (strOf m_.b)), (77, pt m 0), (78, .int .i64 2), (84, .slice q2 a2.l.length k2)] (by kernel_rfl) (by kernel_rfl) rfl rfl ?_
       refine GS.sem (j := 9) (run_tail1 (P := Try.prog) (t := 36) (n := a2.l.length) (c := k2) (A := q2) (by kernel_rfl) (by omega) (by omega)) [5, 9, 77, 78, 85] [(5, .int .i64 2), (9, .string (strOf m_.b)), (77, pt m 0), (78, .int .i64 2), (85, .slice (if k2 = 1 then q2 else q2.map fun a => Addr.add a 1) (a2.l.length - 1) (k2 - 1))] (by kernel_rfl) (by kernel_rfl) rfl rfl ?_
       refine GS.run (j := 12) 3 [5, 9, 85, 88] [(5, .int .i64 2), (9, .string (strOf m_.b)), (85, .slice (if k2 = 1 then q2 else q2.map fun a => Addr.add a 1) (a2.l.length - 1) (k2 - 1)), (88, pt m 2)] (by kernel_rfl) rfl rfl ?_
       refine GS.tail rfl ?_
       obtain ⟨w309, r310, H311⟩ := H307.st (P := Try.prog) (o := 2) (ty := 36) (v := .slice (if k2 = 1 then q2 else q2.map fun a => Addr.add a 1) (a2.l.length - 1) (k2 - 1)) 0 rfl (by kernel_rfl) (by simp) rfl
       have H311 : Hp w S [.blk m [.slice q0 a0.l.length k0, .slice q1 a1.l.length k1, .slice (if k2 = 1 then q2 else q2.map fun a => Addr.add a 1) (a2.l.length - 1) (k2 - 1), .int .i64 ((a0.p + 1 : Nat) : Int), .int .i64 (a1.p : Int), .int .i64 0, .bool cl] 39, .que q0 a0.l.length k0 9 (mq a0.l), .que q1 a1.l.length k1 9 (mq a1.l), .que q2 a2.l.length k2 9 (mq a2.l)] w309 := H311
       refine GL.semU (j := 13) r310 [5, 9] [(5, .int .i64 2), (9, .string (strOf m_.b))] (by kernel_rfl) rfl rfl rfl ?_
       refine GL.k rfl hK306 (fun _ _ h => h) ?_
       refine G.seqK fun K312 hK313 => ?_
       refine G.region ?_
       refine GL.run (j := 5) 5 [2, 3, 4] [(2, .string (strOf m_.b)), (3, .int .i64 2), (4, .bool true)] (by kernel_rfl) rfl ?_
       refine GL.k rfl hK313 (fun _ _ h => h) ?_
       refine G.ret ?_
       intro F_ hF_ hM_
       refine hRet _ _ (bodyPost_3 rfl (RV.tmp rfl) (RV.tmp rfl) (RV.tmp rfl) ?_ F_ hF_ hM_)
       have HT := H311.queTail 3 (x := .string (strOf m_.b)) (xs := mq t_) (by rw [← hmq]; rfl) (by rw [mq_length, hlk]; rfl)
       have HZ : Hp w S [.blk m [.slice q0 a0.pass.l.length k0, .slice q1 a1.pass.l.length k1, .slice (if k2 = 1 then q2 else q2.map fun a => Addr.add a 1) ((a2.took t_).l.length) (k2 - 1), .int .i64 (a0.pass.p : Int), .int .i64 (a1.pass.p : Int), .int .i64 (((a2.took t_).p : Nat) : Int), .bool cl] 39, .que q0 a0.pass.l.length k0 9 (mq a0.pass.l), .que q1 a1.pass.l.length k1 9 (mq a1.pass.l), .que (if k2 = 1 then q2 else q2.map fun a => Addr.add a 1) ((a2.took t_).l.length) (k2 - 1) 9 (mq (a2.took t_).l)] w309 := by rw [show (a2.took t_).l.length = a2.l.length - 1 by rw [hlk]; rfl, show a0.pass.p = a0.p + 1 by unfold Lane.pass; exact if_neg (by omega), show a1.pass.p = a1.p by unfold Lane.pass; exact if_pos (by omega)]; exact HT
       exact ⟨_, _, rfl, HZ⟩
 · skip
   have hb26f := of_decide_eq_true hb26
   refine G.yes rfl ?_
   refine G.region ?_
   refine GL.run (j := 2) 2 [0, 5, 6] [(0, pt m 0), (5, .int .i64 1), (6, .int .i64 1)] (by kernel_rfl) rfl ?_
   refine GL.k rfl hK23 (fun _ _ h => h) ?_
   refine G.region ?_
   refine GL.run (j := 3) 3 [0, 5, 6] [(0, pt m 0), (5, .int .i64 1), (6, .int .i64 0)] (by kernel_rfl) rfl ?_
   refine GL.round rfl ?_
   refine G.seqK fun K314 hK315 => ?_
   refine G.seqK fun K316 hK317 => ?_
   refine G.region ?_
   refine GL.run (j := 2) 2 [0, 5, 6, 11] [(0, pt m 0), (5, .int .i64 1), (6, .int .i64 0), (11, .bool true)] (by kernel_rfl) rfl ?_
   refine GL.k rfl hK317 (fun _ _ h => h) ?_
   refine G.yes rfl ?_
   refine G.skipK hK315 (fun _ _ h => h) ?_
   refine G.seqK fun K318 hK319 => ?_
   refine G.block ?_
   refine G.seqK fun K320 hK321 => ?_
   refine G.region ?_
   refine GL.run (j := 5) 5 [0, 5, 6, 18] [(0, pt m 0), (5, .int .i64 1), (6, .int .i64 0), (18, pt m 0)] (by kernel_rfl) rfl ?_
   refine GL.sem (j := 6) (H.ld (o := 0) (ty := 36) (v := .slice q0 a0.l.length k0) 0 rfl (by kernel_rfl) rfl) [0, 5, 6, 19] [(0, pt m 0), (5, .int .i64 1), (6, .int .i64 0), (19, .slice q0 a0.l.length k0)] (by kernel_rfl) (by kernel_rfl) rfl ?_
   refine GL.run (j := 8) 2 [0, 5, 6, 21] [(0, pt m 0), (5, .int .i64 1), (6, .int .i64 0), (21, .bool (decide (0 < (a0.l.length : Int))))] (by kernel_rfl) rfl ?_
   refine GL.k rfl hK321 (fun _ _ h => h) ?_
   cases hb322 : (decide (0 < (a0.l.length : Int)))
   · skip
     have hb322f := of_decide_eq_false hb322
     refine G.no rfl ?_
     refine G.region ?_
     refine GL.run (j := 5) 5 [0, 5, 6, 27] [(0, pt m 0), (5, .int .i64 1), (6, .int .i64 0), (27, pt m 3)] (by kernel_rfl) rfl ?_
     obtain ⟨w323, r324, H325⟩ := H.st (P := Try.prog) (o := 3) (ty := 3) (v := .int .i64 0) 0 rfl (by kernel_rfl) (by simp) rfl
     have H325 : Hp w S [.blk m [.slice q0 a0.l.length k0, .slice q1 a1.l.length k1, .slice q2 a2.l.length k2, .int .i64 0, .int .i64 (a1.p : Int), .int .i64 (a2.p : Int), .bool cl] 39, .que q0 a0.l.length k0 9 (mq a0.l), .que q1 a1.l.length k1 9 (mq a1.l), .que q2 a2.l.length k2 9 (mq a2.l)] w323 := H325
     refine GL.semU (j := 6) r324 [0, 5, 6] [(0, pt m 0), (5, .int .i64 1), (6, .int .i64 0)] (by kernel_rfl) rfl rfl rfl ?_
     refine GL.k rfl hK319 (fun _ _ h => h) ?_
     refine G.region ?_
     refine GL.run (j := 3) 3 [0, 5, 6] [(0, pt m 0), (5, .int .i64 1), (6, .int .i64 (-1))] (by kernel_rfl) rfl ?_
     refine GL.round rfl ?_
     refine G.seqK fun K326 hK327 => ?_
     refine G.seqK fun K328 hK329 => ?_
     refine G.region ?_
     refine GL.run (j := 2) 2 [0, 5, 6, 11] [(0, pt m 0), (5, .int .i64 1), (6, .int .i64 (-1)), (11, .bool false)] (by kernel_rfl) rfl ?_
     refine GL.k rfl hK329 (fun _ _ h => h) ?_
     refine G.no rfl ?_
     refine G.exitK hK6 (fun _ _ h => h) ?_
     refine G.seqK fun K330 hK331 => ?_
     refine G.seqK fun K332 hK333 => ?_
     refine G.region ?_
     refine GL.run (j := 2) 2 [0, 5, 29] [(0, pt m 0), (5, .int .i64 1), (29, .bool false)] (by kernel_rfl) rfl ?_
     refine GL.k rfl hK333 (fun _ _ h => h) ?_
     refine G.no rfl ?_
     refine G.skipK hK331 (fun _ _ h => h) ?_
     refine G.seqJ (X := Unit) (fun _ => [(0, pt m 0), (5, .int .i64 2)]) (fun _ w_ => (True) ∧ Hp w S [.blk m [.slice q0 a0.l.length k0, .slice q1 a1.l.length k1, .slice q2 a2.l.length k2, .int .i64 (a0.p : Int), .int .i64 (a1.p : Int), .int .i64 (a2.p : Int), .bool cl] 39, .que q0 a0.l.length k0 9 (mq a0.l), .que q1 a1.l.length k1 9 (mq a1.l), .que q2 a2.l.length k2 9 (mq a2.l)] w_) (fun J334 K335 hK336 => ?_) ?_
     · skip
       refine G.seqK fun K337 hK338 => ?_
       refine G.region ?_
       refine GL.run (j := 1) 1 [0, 5, 7] [(0, pt m 0), (5, .int .i64 1), (7, .int .i64 2)] (by kernel_rfl) rfl ?_
       refine GL.k rfl hK338 (fun _ _ h => h) ?_
       refine G.block ?_
       refine G.unroll 3 ?_
       refine G.seqK fun K339 hK340 => ?_
       refine G.seqK fun K341 hK342 => ?_
       refine G.region ?_
       refine GL.run (j := 2) 2 [0, 5, 7, 31] [(0, pt m 0), (5, .int .i64 1), (7, .int .i64 2), (31, .bool true)] (by kernel_rfl) rfl ?_
       refine GL.k rfl hK342 (fun _ _ h => h) ?_
       refine G.yes rfl ?_
       refine G.skipK hK340 (fun _ _ h => h) ?_
       refine G.seqK fun K343 hK344 => ?_
       refine G.block ?_
       refine G.seqK fun K345 hK346 => ?_
       refine G.region ?_
       refine GL.run (j := 5) 5 [0, 5, 7, 38] [(0, pt m 0), (5, .int .i64 1), (7, .int .i64 2), (38, pt m 5)] (by kernel_rfl) rfl ?_
       refine GL.sem (j := 6) (H325.ld (o := 5) (ty := 3) (v := .int .i64 (a2.p : Int)) 0 rfl (by kernel_rfl) rfl) [0, 5, 7, 39] [(0, pt m 0), (5, .int .i64 1), (7, .int .i64 2), (39, .int .i64 (a2.p : Int))] (by kernel_rfl) (by kernel_rfl) rfl ?_
       refine GL.run (j := 7) 1 [0, 5, 7, 40] [(0, pt m 0), (5, .int .i64 1), (7, .int .i64 2), (40, .bool (decide (4 ≤ (a2.p : Int))))] (by kernel_rfl) rfl ?_
       refine GL.k rfl hK346 (fun _ _ h => h) ?_
       cases hb347 : (decide (4 ≤ (a2.p : Int)))
       · skip
         have hb347f := of_decide_eq_false hb347
         refine G.no rfl ?_
         refine G.skipK hK344 (fun _ _ h => h) ?_
         refine G.region ?_
         refine GL.run (j := 3) 3 [0, 5, 7] [(0, pt m 0), (5, .int .i64 1), (7, .int .i64 1)] (by kernel_rfl) rfl ?_
         refine GL.round rfl ?_
         refine G.seqK fun K348 hK349 => ?_
         refine G.seqK fun K350 hK351 => ?_
         refine G.region ?_
         refine GL.run (j := 2) 2 [0, 5, 7, 31] [(0, pt m 0), (5, .int .i64 1), (7, .int .i64 1), (31, .bool true)] (by kernel_rfl) rfl ?_
         refine GL.k rfl hK351 (fun _ _ h => h) ?_
         refine G.yes rfl ?_
         refine G.skipK hK349 (fun _ _ h => h) ?_
         refine G.seqK fun K352 hK353 => ?_
         refine G.block ?_
         refine G.seqK fun K354 hK355 => ?_
         refine G.region ?_
         refine GL.run (j := 5) 5 [0, 5, 7, 38] [(0, pt m 0), (5, .int .i64 1), (7, .int .i64 1), (38, pt m 4)] (by kernel_rfl) rfl ?_
         refine GL.sem (j := 6) (H325.ld (o := 4) (ty := 3) (v := .int .i64 (a1.p : Int)) 0 rfl (by kernel_rfl) rfl) [0, 5, 7, 39] [(0, pt m 0), (5, .int .i64 1), (7, .int .i64 1), (39, .int .i64 (a1.p : Int))] (by kernel_rfl) (by kernel_rfl) rfl ?_
         refine GL.run (j := 7) 1 [0, 5, 7, 40] [(0, pt m 0), (5, .int .i64 1), (7, .int .i64 1), (40, .bool (decide (4 ≤ (a1.p : Int))))] (by kernel_rfl) rfl ?_
         refine GL.k rfl hK355 (fun _ _ h => h) ?_
         cases hb356 : (decide (4 ≤ (a1.p : Int)))
         · skip
           have hb356f := of_decide_eq_false hb356
           refine G.no rfl ?_
           refine G.skipK hK353 (fun _ _ h => h) ?_
           refine G.region ?_
           refine GL.run (j := 3) 3 [0, 5, 7] [(0, pt m 0), (5, .int .i64 1), (7, .int .i64 0)] (by kernel_rfl) rfl ?_
           refine GL.round rfl ?_
           refine G.seqK fun K357 hK358 => ?_
           refine G.seqK fun K359 hK360 => ?_
           refine G.region ?_
           refine GL.run (j := 2) 2 [0, 5, 7, 31] [(0, pt m 0), (5, .int .i64 1), (7, .int .i64 0), (31, .bool true)] (by kernel_rfl) rfl ?_
           refine GL.k rfl hK360 (fun _ _ h => h) ?_
           refine G.yes rfl ?_
           refine G.skipK hK358 (fun _ _ h => h) ?_
           refine G.seqK fun K361 hK362 => ?_
           refine G.block ?_
           refine G.seqK fun K363 hK364 => ?_
           refine G.region ?_
           refine GL.run (j := 5) 5 [0, 5, 7, 38] [(0, pt m 0), (5, .int .i64 1), (7, .int .i64 0), (38, pt m 3)] (by kernel_rfl) rfl ?_
           refine GL.sem (j := 6) (H325.ld (o := 3) (ty := 3) (v := .int .i64 0) 0 rfl (by kernel_rfl) rfl) [0, 5, 7, 39] [(0, pt m 0), (5, .int .i64 1), (7, .int .i64 0), (39, .int .i64 0)] (by kernel_rfl) (by kernel_rfl) rfl ?_
           refine GL.run (j := 7) 1 [0, 5, 7, 40] [(0, pt m 0), (5, .int .i64 1), (7, .int .i64 0), (40, .bool false)] (by kernel_rfl) rfl ?_
           refine GL.k rfl hK364 (fun _ _ h => h) ?_
           refine G.no rfl ?_
           refine G.skipK hK362 (fun _ _ h => h) ?_
           refine G.region ?_
           refine GL.run (j := 3) 3 [0, 5, 7] [(0, pt m 0), (5, .int .i64 1), (7, .int .i64 (-1))] (by kernel_rfl) rfl ?_
           refine GL.round rfl ?_
           refine G.seqK fun K365 hK366 => ?_
           refine G.seqK fun K367 hK368 => ?_
           refine G.region ?_
           refine GL.run (j := 2) 2 [0, 5, 7, 31] [(0, pt m 0), (5, .int .i64 1), (7, .int .i64 (-1)), (31, .bool false)] (by kernel_rfl) rfl ?_
           refine GL.k rfl hK368 (fun _ _ h => h) ?_
           refine G.no rfl ?_
           refine G.exitK hK336 (fun _ _ h => h) ?_
           have e0 : tkN a0 a1 a2 = 1 := by
             unfold tkN
             repeat' split
             all_goals omega
           exact absurd (htk.symm.trans e0) (by decide)
         · skip
           have hb356f := of_decide_eq_true hb356
           refine G.yes rfl ?_
           refine G.region ?_
           refine GL.run (j := 2) 2 [0, 5, 7] [(0, pt m 0), (5, .int .i64 1), (7, .int .i64 1)] (by kernel_rfl) rfl ?_
           refine GL.k rfl hK353 (fun _ _ h => h) ?_
           refine G.region ?_
           refine GL.run (j := 3) 3 [0, 5, 7] [(0, pt m 0), (5, .int .i64 1), (7, .int .i64 0)] (by kernel_rfl) rfl ?_
           refine GL.round rfl ?_
           refine G.seqK fun K369 hK370 => ?_
           refine G.seqK fun K371 hK372 => ?_
           refine G.region ?_
           refine GL.run (j := 2) 2 [0, 5, 7, 31] [(0, pt m 0), (5, .int .i64 1), (7, .int .i64 0), (31, .bool true)] (by kernel_rfl) rfl ?_
           refine GL.k rfl hK372 (fun _ _ h => h) ?_
           refine G.yes rfl ?_
           refine G.skipK hK370 (fun _ _ h => h) ?_
           refine G.seqK fun K373 hK374 => ?_
           refine G.block ?_
           refine G.seqK fun K375 hK376 => ?_
           refine G.region ?_
           refine GL.run (j := 5) 5 [0, 5, 7, 38] [(0, pt m 0), (5, .int .i64 1), (7, .int .i64 0), (38, pt m 3)] (by kernel_rfl) rfl ?_
           refine GL.sem (j := 6) (H325.ld (o := 3) (ty := 3) (v := .int .i64 0) 0 rfl (by kernel_rfl) rfl) [0, 5, 7, 39] [(0, pt m 0), (5, .int .i64 1), (7, .int .i64 0), (39, .int .i64 0)] (by kernel_rfl) (by kernel_rfl) rfl ?_
           refine GL.run (j := 7) 1 [0, 5, 7, 40] [(0, pt m 0), (5, .int .i64 1), (7, .int .i64 0), (40, .bool false)] (by kernel_rfl) rfl ?_
           refine GL.k rfl hK376 (fun _ _ h => h) ?_
           refine G.no rfl ?_
           refine G.skipK hK374 (fun _ _ h => h) ?_
           refine G.region ?_
           refine GL.run (j := 3) 3 [0, 5, 7] [(0, pt m 0), (5, .int .i64 1), (7, .int .i64 (-1))] (by kernel_rfl) rfl ?_
           refine GL.round rfl ?_
           refine G.seqK fun K377 hK378 => ?_
           refine G.seqK fun K379 hK380 => ?_
           refine G.region ?_
           refine GL.run (j := 2) 2 [0, 5, 7, 31] [(0, pt m 0), (5, .int .i64 1), (7, .int .i64 (-1)), (31, .bool false)] (by kernel_rfl) rfl ?_
           refine GL.k rfl hK380 (fun _ _ h => h) ?_
           refine G.no rfl ?_
           refine G.exitK hK336 (fun _ _ h => h) ?_
           have e0 : tkN a0 a1 a2 = 1 := by
             unfold tkN
             repeat' split
             all_goals omega
           exact absurd (htk.symm.trans e0) (by decide)
       · skip
         have hb347f := of_decide_eq_true hb347
         refine G.yes rfl ?_
         refine G.region ?_
         refine GL.run (j := 2) 2 [0, 5, 7] [(0, pt m 0), (5, .int .i64 2), (7, .int .i64 2)] (by kernel_rfl) rfl ?_
         refine GL.k rfl hK344 (fun _ _ h => h) ?_
         refine G.region ?_
         refine GL.run (j := 3) 3 [0, 5, 7] [(0, pt m 0), (5, .int .i64 2), (7, .int .i64 1)] (by kernel_rfl) rfl ?_
         refine GL.round rfl ?_
         refine G.seqK fun K381 hK382 => ?_
         refine G.seqK fun K383 hK384 => ?_
         refine G.region ?_
         refine GL.run (j := 2) 2 [0, 5, 7, 31] [(0, pt m 0), (5, .int .i64 2), (7, .int .i64 1), (31, .bool true)] (by kernel_rfl) rfl ?_
         refine GL.k rfl hK384 (fun _ _ h => h) ?_
         refine G.yes rfl ?_
         refine G.skipK hK382 (fun _ _ h => h) ?_
         refine G.seqK fun K385 hK386 => ?_
         refine G.block ?_
         refine G.seqK fun K387 hK388 => ?_
         refine G.region ?_
         refine GL.run (j := 5) 5 [0, 5, 7, 38] [(0, pt m 0), (5, .int .i64 2), (7, .int .i64 1), (38, pt m 4)] (by kernel_rfl) rfl ?_
         refine GL.sem (j := 6) (H325.ld (o := 4) (ty := 3) (v := .int .i64 (a1.p : Int)) 0 rfl (by kernel_rfl) rfl) [0, 5, 7, 39] [(0, pt m 0), (5, .int .i64 2), (7, .int .i64 1), (39, .int .i64 (a1.p : Int))] (by kernel_rfl) (by kernel_rfl) rfl ?_
         refine GL.run (j := 7) 1 [0, 5, 7, 40] [(0, pt m 0), (5, .int .i64 2), (7, .int .i64 1), (40, .bool (decide (4 ≤ (a1.p : Int))))] (by kernel_rfl) rfl ?_
         refine GL.k rfl hK388 (fun _ _ h => h) ?_
         cases hb389 : (decide (4 ≤ (a1.p : Int)))
         · skip
           have hb389f := of_decide_eq_false hb389
           refine G.no rfl ?_
           refine G.skipK hK386 (fun _ _ h => h) ?_
           refine G.region ?_
           refine GL.run (j := 3) 3 [0, 5, 7] [(0, pt m 0), (5, .int .i64 2), (7, .int .i64 0)] (by kernel_rfl) rfl ?_
           refine GL.round rfl ?_
           refine G.seqK fun K390 hK391 => ?_
           refine G.seqK fun K392 hK393 => ?_
           refine G.region ?_
           refine GL.run (j := 2) 2 [0, 5, 7, 31] [(0, pt m 0), (5, .int .i64 2), (7, .int .i64 0), (31, .bool true)] (by kernel_rfl) rfl ?_
           refine GL.k rfl hK393 (fun _ _ h => h) ?_
           refine G.yes rfl ?_
           refine G.skipK hK391 (fun _ _ h => h) ?_
           refine G.seqK fun K394 hK395 => ?_
           refine G.block ?_
           refine G.seqK fun K396 hK397 => ?_
           refine G.region ?_
           refine GL.run (j := 5) 5 [0, 5, 7, 38] [(0, pt m 0), (5, .int .i64 2), (7, .int .i64 0), (38, pt m 3)] (by kernel_rfl) rfl ?_
           refine GL.sem (j := 6) (H325.ld (o := 3) (ty := 3) (v := .int .i64 0) 0 rfl (by kernel_rfl) rfl) [0, 5, 7, 39] [(0, pt m 0), (5, .int .i64 2), (7, .int .i64 0), (39, .int .i64 0)] (by kernel_rfl) (by kernel_rfl) rfl ?_
           refine GL.run (j := 7) 1 [0, 5, 7, 40] [(0, pt m 0), (5, .int .i64 2), (7, .int .i64 0), (40, .bool false)] (by kernel_rfl) rfl ?_
           refine GL.k rfl hK397 (fun _ _ h => h) ?_
           refine G.no rfl ?_
           refine G.skipK hK395 (fun _ _ h => h) ?_
           refine G.region ?_
           refine GL.run (j := 3) 3 [0, 5, 7] [(0, pt m 0), (5, .int .i64 2), (7, .int .i64 (-1))] (by kernel_rfl) rfl ?_
           refine GL.round rfl ?_
           refine G.seqK fun K398 hK399 => ?_
           refine G.seqK fun K400 hK401 => ?_
           refine G.region ?_
           refine GL.run (j := 2) 2 [0, 5, 7, 31] [(0, pt m 0), (5, .int .i64 2), (7, .int .i64 (-1)), (31, .bool false)] (by kernel_rfl) rfl ?_
           refine GL.k rfl hK401 (fun _ _ h => h) ?_
           refine G.no rfl ?_
           refine G.exitK hK336 (fun _ _ h => h) ?_
           have e0 : tkN a0 a1 a2 = 2 := by
             unfold tkN
             repeat' split
             all_goals omega
           have HZ : Hp w S [.blk m [.slice q0 a0.l.length k0, .slice q1 a1.l.length k1, .slice q2 a2.l.length k2, .int .i64 (a0.p : Int), .int .i64 (a1.p : Int), .int .i64 (a2.p : Int), .bool cl] 39, .que q0 a0.l.length k0 9 (mq a0.l), .que q1 a1.l.length k1 9 (mq a1.l), .que q2 a2.l.length k2 9 (mq a2.l)] w323 := by rw [show a0.p = 0 from hz0.1 (by omega)]; exact H325
           refine G.fit [0, 5] (M' := [(0, pt m 0), (5, .int .i64 2)]) (by kernel_rfl) ?_
           exact J334 () _ ⟨trivial, HZ⟩
         · skip
           have hb389f := of_decide_eq_true hb389
           refine G.yes rfl ?_
           refine G.region ?_
           refine GL.run (j := 2) 2 [0, 5, 7] [(0, pt m 0), (5, .int .i64 1), (7, .int .i64 1)] (by kernel_rfl) rfl ?_
           refine GL.k rfl hK386 (fun _ _ h => h) ?_
           refine G.region ?_
           refine GL.run (j := 3) 3 [0, 5, 7] [(0, pt m 0), (5, .int .i64 1), (7, .int .i64 0)] (by kernel_rfl) rfl ?_
           refine GL.round rfl ?_
           refine G.seqK fun K402 hK403 => ?_
           refine G.seqK fun K404 hK405 => ?_
           refine G.region ?_
           refine GL.run (j := 2) 2 [0, 5, 7, 31] [(0, pt m 0), (5, .int .i64 1), (7, .int .i64 0), (31, .bool true)] (by kernel_rfl) rfl ?_
           refine GL.k rfl hK405 (fun _ _ h => h) ?_
           refine G.yes rfl ?_
           refine G.skipK hK403 (fun _ _ h => h) ?_
           refine G.seqK fun K406 hK407 => ?_
           refine G.block ?_
           refine G.seqK fun K408 hK409 => ?_
           refine G.region ?_
           refine GL.run (j := 5) 5 [0, 5, 7, 38] [(0, pt m 0), (5, .int .i64 1), (7, .int .i64 0), (38, pt m 3)] (by kernel_rfl) rfl ?_
           refine GL.sem (j := 6) (H325.ld (o := 3) (ty := 3) (v := .int .i64 0) 0 rfl (by kernel_rfl) rfl) [0, 5, 7, 39] [(0, pt m 0), (5, .int .i64 1), (7, .int .i64 0), (39, .int .i64 0)] (by kernel_rfl) (by kernel_rfl) rfl ?_
           refine GL.run (j := 7) 1 [0, 5, 7, 40] [(0, pt m 0), (5, .int .i64 1), (7, .int .i64 0), (40, .bool false)] (by kernel_rfl) rfl ?_
           refine GL.k rfl hK409 (fun _ _ h => h) ?_
           refine G.no rfl ?_
           refine G.skipK hK407 (fun _ _ h => h) ?_
           refine G.region ?_
           refine GL.run (j := 3) 3 [0, 5, 7] [(0, pt m 0), (5, .int .i64 1), (7, .int .i64 (-1))] (by kernel_rfl) rfl ?_
           refine GL.round rfl ?_
           refine G.seqK fun K410 hK411 => ?_
           refine G.seqK fun K412 hK413 => ?_
           refine G.region ?_
           refine GL.run (j := 2) 2 [0, 5, 7, 31] [(0, pt m 0), (5, .int .i64 1), (7, .int .i64 (-1)), (31, .bool false)] (by kernel_rfl) rfl ?_
           refine GL.k rfl hK413 (fun _ _ h => h) ?_
           refine G.no rfl ?_
           refine G.exitK hK336 (fun _ _ h => h) ?_
           have e0 : tkN a0 a1 a2 = 1 := by
             unfold tkN
             repeat' split
             all_goals omega
           exact absurd (htk.symm.trans e0) (by decide)
     · skip
       rintro _ w414 ⟨hi415, H416⟩
       refine G.eq (M' := [(0, pt m 0), (5, .int .i64 2)]) rfl ?_
       have H416 : Hp w S [.blk m [.slice q0 a0.l.length k0, .slice q1 a1.l.length k1, .slice q2 a2.l.length k2, .int .i64 (a0.p : Int), .int .i64 (a1.p : Int), .int .i64 (a2.p : Int), .bool cl] 39, .que q0 a0.l.length k0 9 (mq a0.l), .que q1 a1.l.length k1 9 (mq a1.l), .que q2 a2.l.length k2 9 (mq a2.l)] w414 := H416
       refine G.seqK fun K417 hK418 => ?_
       refine G.seqK fun K419 hK420 => ?_
       refine G.region ?_
       refine GL.run (j := 1) 1 [0, 5, 42] [(0, pt m 0), (5, .int .i64 2), (42, .int .i64 0)] (by kernel_rfl) rfl ?_
       refine GL.k rfl hK420 (fun _ _ h => h) ?_
       refine G.block ?_
       refine G.unroll 3 ?_
       refine G.seqK fun K421 hK422 => ?_
       refine G.region ?_
       refine GL.run (j := 1) 1 [0, 5, 42, 43] [(0, pt m 0), (5, .int .i64 2), (42, .int .i64 0), (43, .bool true)] (by kernel_rfl) rfl ?_
       refine GL.k rfl hK422 (fun _ _ h => h) ?_
       refine G.seqK fun K423 hK424 => ?_
       refine G.yes rfl ?_
       refine G.skipK hK424 (fun _ _ h => h) ?_
       refine G.seqK fun K425 hK426 => ?_
       refine G.block ?_
       refine G.seqK fun K427 hK428 => ?_
       refine G.region ?_
       refine GL.run (j := 2) 2 [0, 5, 8, 42] [(0, pt m 0), (5, .int .i64 2), (8, .int .i64 0), (42, .int .i64 0)] (by kernel_rfl) rfl ?_
       refine GL.k rfl hK428 (fun _ _ h => h) ?_
       refine G.seqK fun K429 hK430 => ?_
       refine G.region ?_
       refine GL.run (j := 5) 5 [0, 5, 8, 42, 49] [(0, pt m 0), (5, .int .i64 2), (8, .int .i64 0), (42, .int .i64 0), (49, pt m 0)] (by kernel_rfl) rfl ?_
       refine GL.sem (j := 6) (H416.ld (o := 0) (ty := 36) (v := .slice q0 a0.l.length k0) 0 rfl (by kernel_rfl) rfl) [0, 5, 8, 42, 50] [(0, pt m 0), (5, .int .i64 2), (8, .int .i64 0), (42, .int .i64 0), (50, .slice q0 a0.l.length k0)] (by kernel_rfl) (by kernel_rfl) rfl ?_
       refine GL.run (j := 8) 2 [0, 5, 8, 42, 52] [(0, pt m 0), (5, .int .i64 2), (8, .int .i64 0), (42, .int .i64 0), (52, .bool (decide (0 < (a0.l.length : Int))))] (by kernel_rfl) rfl ?_
       refine GL.k rfl hK430 (fun _ _ h => h) ?_
       have hb431 : (decide (0 < (a0.l.length : Int))) = false := by assumption
       rw [hb431]
       refine G.no rfl ?_
       refine G.skipK hK426 (fun _ _ h => h) ?_
       refine G.region ?_
       refine GL.run (j := 2) 2 [0, 5, 42] [(0, pt m 0), (5, .int .i64 2), (42, .int .i64 1)] (by kernel_rfl) rfl ?_
       refine GL.round rfl ?_
       refine G.seqK fun K432 hK433 => ?_
       refine G.region ?_
       refine GL.run (j := 1) 1 [0, 5, 42, 43] [(0, pt m 0), (5, .int .i64 2), (42, .int .i64 1), (43, .bool true)] (by kernel_rfl) rfl ?_
       refine GL.k rfl hK433 (fun _ _ h => h) ?_
       refine G.seqK fun K434 hK435 => ?_
       refine G.yes rfl ?_
       refine G.skipK hK435 (fun _ _ h => h) ?_
       refine G.seqK fun K436 hK437 => ?_
       refine G.block ?_
       refine G.seqK fun K438 hK439 => ?_
       refine G.region ?_
       refine GL.run (j := 2) 2 [0, 5, 8, 42] [(0, pt m 0), (5, .int .i64 2), (8, .int .i64 1), (42, .int .i64 1)] (by kernel_rfl) rfl ?_
       refine GL.k rfl hK439 (fun _ _ h => h) ?_
       refine G.seqK fun K440 hK441 => ?_
       refine G.region ?_
       refine GL.run (j := 5) 5 [0, 5, 8, 42, 49] [(0, pt m 0), (5, .int .i64 2), (8, .int .i64 1), (42, .int .i64 1), (49, pt m 1)] (by kernel_rfl) rfl ?_
       refine GL.sem (j := 6) (H416.ld (o := 1) (ty := 36) (v := .slice q1 a1.l.length k1) 0 rfl (by kernel_rfl) rfl) [0, 5, 8, 42, 50] [(0, pt m 0), (5, .int .i64 2), (8, .int .i64 1), (42, .int .i64 1), (50, .slice q1 a1.l.length k1)] (by kernel_rfl) (by kernel_rfl) rfl ?_
       refine GL.run (j := 8) 2 [0, 5, 8, 42, 52] [(0, pt m 0), (5, .int .i64 2), (8, .int .i64 1), (42, .int .i64 1), (52, .bool (decide (0 < (a1.l.length : Int))))] (by kernel_rfl) rfl ?_
       refine GL.k rfl hK441 (fun _ _ h => h) ?_
       have hb442 : (decide (0 < (a1.l.length : Int))) = true := by assumption
       rw [hb442]
       refine G.yes rfl ?_
       refine G.tail 10 (by kernel_rfl) (by kernel_rfl) ?_
       have H443 := H416.drew
       generalize ({ w414 with drawn := w414.drawn + 1 } : World) = w444 at H443 ⊢
       refine GS.run (j := 5) 5 [0, 5, 42, 53, 54, 57] [(0, pt m 0), (5, .int .i64 2), (42, .int .i64 1), (53, pt m 0), (54, .int .i64 1), (57, pt m 4)] (by kernel_rfl) rfl rfl ?_
       refine GS.sem (j := 6) (H443.ld (o := 4) (ty := 3) (v := .int .i64 (a1.p : Int)) 0 rfl (by kernel_rfl) rfl) [0, 5, 42, 53, 54, 58] [(0, pt m 0), (5, .int .i64 2), (42, .int .i64 1), (53, pt m 0), (54, .int .i64 1), (58, .int .i64 (a1.p : Int))] (by kernel_rfl) (by kernel_rfl) rfl rfl ?_
       refine GS.run (j := 10) 4 [0, 5, 42, 59, 62] [(0, pt m 0), (5, .int .i64 2), (42, .int .i64 1), (59, .int .i64 (IntKind.i64.wrap ((a1.p : Int) + 1))), (62, pt m 4)] (by kernel_rfl) rfl rfl ?_
       have e445 : (IntKind.i64.wrap ((a1.p : Int) + 1)) = ((a1.p + 1 : Nat) : Int) := by rw [in_i64 (by omega)]; omega
       refine GS.eq (M' := [(0, pt m 0), (5, .int .i64 2), (42, .int .i64 1), (59, .int .i64 ((a1.p + 1 : Nat) : Int)), (62, pt m 4)]) (by rw [e445]) ?_
       clear e445
       refine GS.tail rfl ?_
       obtain ⟨w446, r447, H448⟩ := H443.st (P := Try.prog) (o := 4) (ty := 3) (v := .int .i64 ((a1.p + 1 : Nat) : Int)) 0 rfl (by kernel_rfl) (by simp) rfl
       have H448 : Hp w S [.blk m [.slice q0 a0.l.length k0, .slice q1 a1.l.length k1, .slice q2 a2.l.length k2, .int .i64 (a0.p : Int), .int .i64 ((a1.p + 1 : Nat) : Int), .int .i64 (a2.p : Int), .bool cl] 39, .que q0 a0.l.length k0 9 (mq a0.l), .que q1 a1.l.length k1 9 (mq a1.l), .que q2 a2.l.length k2 9 (mq a2.l)] w446 := H448
       refine GL.semU (j := 11) r447 [0, 5, 42] [(0, pt m 0), (5, .int .i64 2), (42, .int .i64 1)] (by kernel_rfl) rfl rfl rfl ?_
       refine GL.k rfl hK437 (fun _ _ h => h) ?_
       refine G.region ?_
       refine GL.run (j := 2) 2 [0, 5, 42] [(0, pt m 0), (5, .int .i64 2), (42, .int .i64 2)] (by kernel_rfl) rfl ?_
       refine GL.round rfl ?_
       refine G.seqK fun K449 hK450 => ?_
       refine G.region ?_
       refine GL.run (j := 1) 1 [0, 5, 42, 43] [(0, pt m 0), (5, .int .i64 2), (42, .int .i64 2), (43, .bool true)] (by kernel_rfl) rfl ?_
       refine GL.k rfl hK450 (fun _ _ h => h) ?_
       refine G.seqK fun K451 hK452 => ?_
       refine G.yes rfl ?_
       refine G.skipK hK452 (fun _ _ h => h) ?_
       refine G.seqK fun K453 hK454 => ?_
       refine G.block ?_
       refine G.seqK fun K455 hK456 => ?_
       refine G.region ?_
       refine GL.run (j := 2) 2 [0, 5, 8, 42] [(0, pt m 0), (5, .int .i64 2), (8, .int .i64 2), (42, .int .i64 2)] (by kernel_rfl) rfl ?_
       refine GL.k rfl hK456 (fun _ _ h => h) ?_
       refine G.seqK fun K457 hK458 => ?_
       refine G.region ?_
       refine GL.run (j := 5) 5 [0, 5, 8, 42, 49] [(0, pt m 0), (5, .int .i64 2), (8, .int .i64 2), (42, .int .i64 2), (49, pt m 2)] (by kernel_rfl) rfl ?_
       refine GL.sem (j := 6) (H448.ld (o := 2) (ty := 36) (v := .slice q2 a2.l.length k2) 0 rfl (by kernel_rfl) rfl) [0, 5, 8, 42, 50] [(0, pt m 0), (5, .int .i64 2), (8, .int .i64 2), (42, .int .i64 2), (50, .slice q2 a2.l.length k2)] (by kernel_rfl) (by kernel_rfl) rfl ?_
       refine GL.run (j := 8) 2 [0, 5, 8, 42, 52] [(0, pt m 0), (5, .int .i64 2), (8, .int .i64 2), (42, .int .i64 2), (52, .bool (decide (0 < (a2.l.length : Int))))] (by kernel_rfl) rfl ?_
       refine GL.k rfl hK458 (fun _ _ h => h) ?_
       have hb459 : (decide (0 < (a2.l.length : Int))) = true := by assumption
       rw [hb459]
       refine G.yes rfl ?_
       refine G.tail 10 (by kernel_rfl) (by kernel_rfl) ?_
       have H460 := H448.drew
       generalize ({ w446 with drawn := w446.drawn + 1 } : World) = w461 at H460 ⊢
       refine GS.run (j := 5) 5 [0, 5, 42, 53, 54, 57] [(0, pt m 0), (5, .int .i64 2), (42, .int .i64 2), (53, pt m 0), (54, .int .i64 2), (57, pt m 5)] (by kernel_rfl) rfl rfl ?_
       refine GS.sem (j := 6) (H460.ld (o := 5) (ty := 3) (v := .int .i64 (a2.p : Int)) 0 rfl (by kernel_rfl) rfl) [0, 5, 42, 53, 54, 58] [(0, pt m 0), (5, .int .i64 2), (42, .int .i64 2), (53, pt m 0), (54, .int .i64 2), (58, .int .i64 (a2.p : Int))] (by kernel_rfl) (by kernel_rfl) rfl rfl ?_
       refine GS.run (j := 10) 4 [0, 5, 42, 59, 62] [(0, pt m 0), (5, .int .i64 2), (42, .int .i64 2), (59, .int .i64 (IntKind.i64.wrap ((a2.p : Int) + 1))), (62, pt m 5)] (by kernel_rfl) rfl rfl ?_
       have e462 : (IntKind.i64.wrap ((a2.p : Int) + 1)) = ((a2.p + 1 : Nat) : Int) := by rw [in_i64 (by omega)]; omega
       refine GS.eq (M' := [(0, pt m 0), (5, .int .i64 2), (42, .int .i64 2), (59, .int .i64 ((a2.p + 1 : Nat) : Int)), (62, pt m 5)]) (by rw [e462]) ?_
       clear e462
       refine GS.tail rfl ?_
       obtain ⟨w463, r464, H465⟩ := H460.st (P := Try.prog) (o := 5) (ty := 3) (v := .int .i64 ((a2.p + 1 : Nat) : Int)) 0 rfl (by kernel_rfl) (by simp) rfl
       have H465 : Hp w S [.blk m [.slice q0 a0.l.length k0, .slice q1 a1.l.length k1, .slice q2 a2.l.length k2, .int .i64 (a0.p : Int), .int .i64 ((a1.p + 1 : Nat) : Int), .int .i64 ((a2.p + 1 : Nat) : Int), .bool cl] 39, .que q0 a0.l.length k0 9 (mq a0.l), .que q1 a1.l.length k1 9 (mq a1.l), .que q2 a2.l.length k2 9 (mq a2.l)] w463 := H465
       refine GL.semU (j := 11) r464 [0, 5, 42] [(0, pt m 0), (5, .int .i64 2), (42, .int .i64 2)] (by kernel_rfl) rfl rfl rfl ?_
       refine GL.k rfl hK454 (fun _ _ h => h) ?_
       refine G.region ?_
       refine GL.run (j := 2) 2 [0, 5, 42] [(0, pt m 0), (5, .int .i64 2), (42, .int .i64 3)] (by kernel_rfl) rfl ?_
       refine GL.round rfl ?_
       refine G.seqK fun K466 hK467 => ?_
       refine G.region ?_
       refine GL.run (j := 1) 1 [0, 5, 42, 43] [(0, pt m 0), (5, .int .i64 2), (42, .int .i64 3), (43, .bool false)] (by kernel_rfl) rfl ?_
       refine GL.k rfl hK467 (fun _ _ h => h) ?_
       refine G.seqK fun K468 hK469 => ?_
       refine G.no rfl ?_
       refine G.exitK hK418 (fun _ _ h => h) ?_
       refine G.seqK fun K470 hK471 => ?_
       refine G.region ?_
       refine GL.run (j := 5) 5 [0, 5, 68] [(0, pt m 0), (5, .int .i64 2), (68, pt m 5)] (by kernel_rfl) rfl ?_
       obtain ⟨w472, r473, H474⟩ := H465.st (P := Try.prog) (o := 5) (ty := 3) (v := .int .i64 0) 0 rfl (by kernel_rfl) (by simp) rfl
       have H474 : Hp w S [.blk m [.slice q0 a0.l.length k0, .slice q1 a1.l.length k1, .slice q2 a2.l.length k2, .int .i64 (a0.p : Int), .int .i64 ((a1.p + 1 : Nat) : Int), .int .i64 0, .bool cl] 39, .que q0 a0.l.length k0 9 (mq a0.l), .que q1 a1.l.length k1 9 (mq a1.l), .que q2 a2.l.length k2 9 (mq a2.l)] w472 := H474
       refine GL.semU (j := 6) r473 [0, 5] [(0, pt m 0), (5, .int .i64 2)] (by kernel_rfl) rfl rfl rfl ?_
       refine GL.k rfl hK471 (fun _ _ h => h) ?_
       refine G.seqK fun K475 hK476 => ?_
       refine G.region ?_
       refine GL.run (j := 5) 5 [0, 5, 73] [(0, pt m 0), (5, .int .i64 2), (73, pt m 2)] (by kernel_rfl) rfl ?_
       refine GL.sem (j := 6) (H474.ld (o := 2) (ty := 36) (v := .slice q2 a2.l.length k2) 0 rfl (by kernel_rfl) rfl) [0, 5, 74] [(0, pt m 0), (5, .int .i64 2), (74, .slice q2 a2.l.length k2)] (by kernel_rfl) (by kernel_rfl) rfl ?_
       refine GL.sem (j := 7) (run_idxRd (P := Try.prog) (k := .i64) (t := 36) (A := q2) (len := a2.l.length) (cap := k2) (j := 0) (by kernel_rfl) rfl (H474.rdQue 3 rfl) (mq_length _) (by omega)) [0, 5, 75] [(0, pt m 0), (5, .int .i64 2), (75, .pointer (Option.map (fun x => Addr.add x 0) q2))] (by kernel_rfl) (by kernel_rfl) rfl ?_
       refine GL.sem (j := 8) (run_ldRd (P := Try.prog) (ty := 9) (A := q2) (j := 0) (v := .string (strOf m_.b)) (by kernel_rfl) (H474.rdQue 3 rfl) (by rw [hmq]; rfl)) [0, 5, 76] [(0, pt m 0), (5, .int .i64 2), (76, .string (strOf m_.b))] (by kernel_rfl) (by kernel_rfl) rfl ?_
       refine GL.run (j := 9) 1 [0, 5, 9] [(0, pt m 0), (5, .int .i64 2), (9, .string (strOf m_.b))] (by kernel_rfl) rfl ?_
       refine GL.k rfl hK476 (fun _ _ h => h) ?_
       refine G.seqK fun K477 hK478 => ?_
       refine G.tail 12 (by kernel_rfl) (by kernel_rfl) ?_
       have H479 := H474.drew
       generalize ({ w472 with drawn := w472.drawn + 1 } : World) = w480 at H479 ⊢
       refine GS.run (j := 7) 7 [5, 9, 77, 78, 83] [(5, .int .i64 2), (9, .string (strOf m_.b)), (77, pt m 0), (78, .int .i64 2), (83, pt m 2)] (by kernel_rfl) rfl rfl ?_
       refine GS.sem (j := 8) (H479.ld (o := 2) (ty := 36) (v := .slice q2 a2.l.length k2) 0 rfl (by kernel_rfl) rfl) [5, 9, 77, 78, 84] [(5, .int .i64 2), (9, .string (strOf m_.b)), (77, pt m 0), (78, .int .i64 2), (84, .slice q2 a2.l.length k2)] (by kernel_rfl) (by kernel_rfl) rfl rfl ?_
       refine GS.sem (j := 9) (run_tail1 (P := Try.prog) (t := 36) (n := a2.l.length) (c := k2) (A := q2) (by kernel_rfl) (by omega) (by omega)) [5, 9, 77, 78, 85] [(5, .int .i64 2), (9, .string (strOf m_.b)), (77, pt m 0), (78, .int .i64 2), (85, .slice (if k2 = 1 then q2 else q2.map fun a => Addr.add a 1) (a2.l.length - 1) (k2 - 1))] (by kernel_rfl) (by kernel_rfl) rfl rfl ?_
       refine GS.run (j := 12) 3 [5, 9, 85, 88] [(5, .int .i64 2), (9, .string (strOf m_.b)), (85, .slice (if k2 = 1 then q2 else q2.map fun a => Addr.add a 1) (a2.l.length - 1) (k2 - 1)), (88, pt m 2)] (by kernel_rfl) rfl rfl ?_
       refine GS.tail rfl ?_
       obtain ⟨w481, r482, H483⟩ := H479.st (P := Try.prog) (o := 2) (ty := 36) (v := .slice (if k2 = 1 then q2 else q2.map fun a => Addr.add a 1) (a2.l.length - 1) (k2 - 1)) 0 rfl (by kernel_rfl) (by simp) rfl
       have H483 : Hp w S [.blk m [.slice q0 a0.l.length k0, .slice q1 a1.l.length k1, .slice (if k2 = 1 then q2 else q2.map fun a => Addr.add a 1) (a2.l.length - 1) (k2 - 1), .int .i64 (a0.p : Int), .int .i64 ((a1.p + 1 : Nat) : Int), .int .i64 0, .bool cl] 39, .que q0 a0.l.length k0 9 (mq a0.l), .que q1 a1.l.length k1 9 (mq a1.l), .que q2 a2.l.length k2 9 (mq a2.l)] w481 := H483
       refine GL.semU (j := 13) r482 [5, 9] [(5, .int .i64 2), (9, .string (strOf m_.b))] (by kernel_rfl) rfl rfl rfl ?_
       refine GL.k rfl hK478 (fun _ _ h => h) ?_
       refine G.seqK fun K484 hK485 => ?_
       refine G.region ?_
       refine GL.run (j := 5) 5 [2, 3, 4] [(2, .string (strOf m_.b)), (3, .int .i64 2), (4, .bool true)] (by kernel_rfl) rfl ?_
       refine GL.k rfl hK485 (fun _ _ h => h) ?_
       refine G.ret ?_
       intro F_ hF_ hM_
       refine hRet _ _ (bodyPost_3 rfl (RV.tmp rfl) (RV.tmp rfl) (RV.tmp rfl) ?_ F_ hF_ hM_)
       have HT := H483.queTail 3 (x := .string (strOf m_.b)) (xs := mq t_) (by rw [← hmq]; rfl) (by rw [mq_length, hlk]; rfl)
       have HZ : Hp w S [.blk m [.slice q0 a0.pass.l.length k0, .slice q1 a1.pass.l.length k1, .slice (if k2 = 1 then q2 else q2.map fun a => Addr.add a 1) ((a2.took t_).l.length) (k2 - 1), .int .i64 (a0.pass.p : Int), .int .i64 (a1.pass.p : Int), .int .i64 (((a2.took t_).p : Nat) : Int), .bool cl] 39, .que q0 a0.pass.l.length k0 9 (mq a0.pass.l), .que q1 a1.pass.l.length k1 9 (mq a1.pass.l), .que (if k2 = 1 then q2 else q2.map fun a => Addr.add a 1) ((a2.took t_).l.length) (k2 - 1) 9 (mq (a2.took t_).l)] w481 := by rw [show (a2.took t_).l.length = a2.l.length - 1 by rw [hlk]; rfl, show a0.pass.p = a0.p by unfold Lane.pass; exact if_pos (by omega), show a1.pass.p = a1.p + 1 by unfold Lane.pass; exact if_neg (by omega)]; exact HT
       exact ⟨_, _, rfl, HZ⟩
   · skip
     have hb322f := of_decide_eq_true hb322
     refine G.yes rfl ?_
     refine G.region ?_
     refine GL.run (j := 2) 2 [0, 5, 6] [(0, pt m 0), (5, .int .i64 0), (6, .int .i64 0)] (by kernel_rfl) rfl ?_
     refine GL.k rfl hK319 (fun _ _ h => h) ?_
     refine G.region ?_
     refine GL.run (j := 3) 3 [0, 5, 6] [(0, pt m 0), (5, .int .i64 0), (6, .int .i64 (-1))] (by kernel_rfl) rfl ?_
     refine GL.round rfl ?_
     refine G.seqK fun K486 hK487 => ?_
     refine G.seqK fun K488 hK489 => ?_
     refine G.region ?_
     refine GL.run (j := 2) 2 [0, 5, 6, 11] [(0, pt m 0), (5, .int .i64 0), (6, .int .i64 (-1)), (11, .bool false)] (by kernel_rfl) rfl ?_
     refine GL.k rfl hK489 (fun _ _ h => h) ?_
     refine G.no rfl ?_
     refine G.exitK hK6 (fun _ _ h => h) ?_
     refine G.seqK fun K490 hK491 => ?_
     refine G.seqK fun K492 hK493 => ?_
     refine G.region ?_
     refine GL.run (j := 2) 2 [0, 5, 29] [(0, pt m 0), (5, .int .i64 0), (29, .bool false)] (by kernel_rfl) rfl ?_
     refine GL.k rfl hK493 (fun _ _ h => h) ?_
     refine G.no rfl ?_
     refine G.skipK hK491 (fun _ _ h => h) ?_
     refine G.seqJ (X := Unit) (fun _ => [(0, pt m 0), (5, .int .i64 2)]) (fun _ w_ => (True) ∧ Hp w S [.blk m [.slice q0 a0.l.length k0, .slice q1 a1.l.length k1, .slice q2 a2.l.length k2, .int .i64 (a0.p : Int), .int .i64 (a1.p : Int), .int .i64 (a2.p : Int), .bool cl] 39, .que q0 a0.l.length k0 9 (mq a0.l), .que q1 a1.l.length k1 9 (mq a1.l), .que q2 a2.l.length k2 9 (mq a2.l)] w_) (fun J494 K495 hK496 => ?_) ?_
     · skip
       refine G.seqK fun K497 hK498 => ?_
       refine G.region ?_
       refine GL.run (j := 1) 1 [0, 5, 7] [(0, pt m 0), (5, .int .i64 0), (7, .int .i64 2)] (by kernel_rfl) rfl ?_
       refine GL.k rfl hK498 (fun _ _ h => h) ?_
       refine G.block ?_
       refine G.unroll 3 ?_
       refine G.seqK fun K499 hK500 => ?_
       refine G.seqK fun K501 hK502 => ?_
       refine G.region ?_
       refine GL.run (j := 2) 2 [0, 5, 7, 31] [(0, pt m 0), (5, .int .i64 0), (7, .int .i64 2), (31, .bool true)] (by kernel_rfl) rfl ?_
       refine GL.k rfl hK502 (fun _ _ h => h) ?_
       refine G.yes rfl ?_
       refine G.skipK hK500 (fun _ _ h => h) ?_
       refine G.seqK fun K503 hK504 => ?_
       refine G.block ?_
       refine G.seqK fun K505 hK506 => ?_
       refine G.region ?_
       refine GL.run (j := 5) 5 [0, 5, 7, 38] [(0, pt m 0), (5, .int .i64 0), (7, .int .i64 2), (38, pt m 5)] (by kernel_rfl) rfl ?_
       refine GL.sem (j := 6) (H.ld (o := 5) (ty := 3) (v := .int .i64 (a2.p : Int)) 0 rfl (by kernel_rfl) rfl) [0, 5, 7, 39] [(0, pt m 0), (5, .int .i64 0), (7, .int .i64 2), (39, .int .i64 (a2.p : Int))] (by kernel_rfl) (by kernel_rfl) rfl ?_
       refine GL.run (j := 7) 1 [0, 5, 7, 40] [(0, pt m 0), (5, .int .i64 0), (7, .int .i64 2), (40, .bool (decide (4 ≤ (a2.p : Int))))] (by kernel_rfl) rfl ?_
       refine GL.k rfl hK506 (fun _ _ h => h) ?_
       cases hb507 : (decide (4 ≤ (a2.p : Int)))
       · skip
         have hb507f := of_decide_eq_false hb507
         refine G.no rfl ?_
         refine G.skipK hK504 (fun _ _ h => h) ?_
         refine G.region ?_
         refine GL.run (j := 3) 3 [0, 5, 7] [(0, pt m 0), (5, .int .i64 0), (7, .int .i64 1)] (by kernel_rfl) rfl ?_
         refine GL.round rfl ?_
         refine G.seqK fun K508 hK509 => ?_
         refine G.seqK fun K510 hK511 => ?_
         refine G.region ?_
         refine GL.run (j := 2) 2 [0, 5, 7, 31] [(0, pt m 0), (5, .int .i64 0), (7, .int .i64 1), (31, .bool true)] (by kernel_rfl) rfl ?_
         refine GL.k rfl hK511 (fun _ _ h => h) ?_
         refine G.yes rfl ?_
         refine G.skipK hK509 (fun _ _ h => h) ?_
         refine G.seqK fun K512 hK513 => ?_
         refine G.block ?_
         refine G.seqK fun K514 hK515 => ?_
         refine G.region ?_
         refine GL.run (j := 5) 5 [0, 5, 7, 38] [(0, pt m 0), (5, .int .i64 0), (7, .int .i64 1), (38, pt m 4)] (by kernel_rfl) rfl ?_
         refine GL.sem (j := 6) (H.ld (o := 4) (ty := 3) (v := .int .i64 (a1.p : Int)) 0 rfl (by kernel_rfl) rfl) [0, 5, 7, 39] [(0, pt m 0), (5, .int .i64 0), (7, .int .i64 1), (39, .int .i64 (a1.p : Int))] (by kernel_rfl) (by kernel_rfl) rfl ?_
         refine GL.run (j := 7) 1 [0, 5, 7, 40] [(0, pt m 0), (5, .int .i64 0), (7, .int .i64 1), (40, .bool (decide (4 ≤ (a1.p : Int))))] (by kernel_rfl) rfl ?_
         refine GL.k rfl hK515 (fun _ _ h => h) ?_
         cases hb516 : (decide (4 ≤ (a1.p : Int)))
         · skip
           have hb516f := of_decide_eq_false hb516
           refine G.no rfl ?_
           refine G.skipK hK513 (fun _ _ h => h) ?_
           refine G.region ?_
           refine GL.run (j := 3) 3 [0, 5, 7] [(0, pt m 0), (5, .int .i64 0), (7, .int .i64 0)] (by kernel_rfl) rfl ?_
           refine GL.round rfl ?_
           refine G.seqK fun K517 hK518 => ?_
           refine G.seqK fun K519 hK520 => ?_
           refine G.region ?_
           refine GL.run (j := 2) 2 [0, 5, 7, 31] [(0, pt m 0), (5, .int .i64 0), (7, .int .i64 0), (31, .bool true)] (by kernel_rfl) rfl ?_
           refine GL.k rfl hK520 (fun _ _ h => h) ?_
           refine G.yes rfl ?_
           refine G.skipK hK518 (fun _ _ h => h) ?_
           refine G.seqK fun K521 hK522 => ?_
           refine G.block ?_
           refine G.seqK fun K523 hK524 => ?_
           refine G.region ?_
           refine GL.run (j := 5) 5 [0, 5, 7, 38] [(0, pt m 0), (5, .int .i64 0), (7, .int .i64 0), (38, pt m 3)] (by kernel_rfl) rfl ?_
           refine GL.sem (j := 6) (H.ld (o := 3) (ty := 3) (v := .int .i64 (a0.p : Int)) 0 rfl (by kernel_rfl) rfl) [0, 5, 7, 39] [(0, pt m 0), (5, .int .i64 0), (7, .int .i64 0), (39, .int .i64 (a0.p : Int))] (by kernel_rfl) (by kernel_rfl) rfl ?_
           refine GL.run (j := 7) 1 [0, 5, 7, 40] [(0, pt m 0), (5, .int .i64 0), (7, .int .i64 0), (40, .bool (decide (4 ≤ (a0.p : Int))))] (by kernel_rfl) rfl ?_
           refine GL.k rfl hK524 (fun _ _ h => h) ?_
           cases hb525 : (decide (4 ≤ (a0.p : Int)))
           · skip
             have hb525f := of_decide_eq_false hb525
             refine G.no rfl ?_
             refine G.skipK hK522 (fun _ _ h => h) ?_
             refine G.region ?_
             refine GL.run (j := 3) 3 [0, 5, 7] [(0, pt m 0), (5, .int .i64 0), (7, .int .i64 (-1))] (by kernel_rfl) rfl ?_
             refine GL.round rfl ?_
             refine G.seqK fun K526 hK527 => ?_
             refine G.seqK fun K528 hK529 => ?_
             refine G.region ?_
             refine GL.run (j := 2) 2 [0, 5, 7, 31] [(0, pt m 0), (5, .int .i64 0), (7, .int .i64 (-1)), (31, .bool false)] (by kernel_rfl) rfl ?_
             refine GL.k rfl hK529 (fun _ _ h => h) ?_
             refine G.no rfl ?_
             refine G.exitK hK496 (fun _ _ h => h) ?_
             have e0 : tkN a0 a1 a2 = 0 := by
               unfold tkN
               repeat' split
               all_goals omega
             exact absurd (htk.symm.trans e0) (by decide)
           · skip
             have hb525f := of_decide_eq_true hb525
             refine G.yes rfl ?_
             refine G.region ?_
             refine GL.run (j := 2) 2 [0, 5, 7] [(0, pt m 0), (5, .int .i64 0), (7, .int .i64 0)] (by kernel_rfl) rfl ?_
             refine GL.k rfl hK522 (fun _ _ h => h) ?_
             refine G.region ?_
             refine GL.run (j := 3) 3 [0, 5, 7] [(0, pt m 0), (5, .int .i64 0), (7, .int .i64 (-1))] (by kernel_rfl) rfl ?_
             refine GL.round rfl ?_
             refine G.seqK fun K530 hK531 => ?_
             refine G.seqK fun K532 hK533 => ?_
             refine G.region ?_
             refine GL.run (j := 2) 2 [0, 5, 7, 31] [(0, pt m 0), (5, .int .i64 0), (7, .int .i64 (-1)), (31, .bool false)] (by kernel_rfl) rfl ?_
             refine GL.k rfl hK533 (fun _ _ h => h) ?_
             refine G.no rfl ?_
             refine G.exitK hK496 (fun _ _ h => h) ?_
             have e0 : tkN a0 a1 a2 = 0 := by
               unfold tkN
               repeat' split
               all_goals omega
             exact absurd (htk.symm.trans e0) (by decide)
         · skip
           have hb516f := of_decide_eq_true hb516
           refine G.yes rfl ?_
           refine G.region ?_
           refine GL.run (j := 2) 2 [0, 5, 7] [(0, pt m 0), (5, .int .i64 1), (7, .int .i64 1)] (by kernel_rfl) rfl ?_
           refine GL.k rfl hK513 (fun _ _ h => h) ?_
           refine G.region ?_
           refine GL.run (j := 3) 3 [0, 5, 7] [(0, pt m 0), (5, .int .i64 1), (7, .int .i64 0)] (by kernel_rfl) rfl ?_
           refine GL.round rfl ?_
           refine G.seqK fun K534 hK535 => ?_
           refine G.seqK fun K536 hK537 => ?_
           refine G.region ?_
           refine GL.run (j := 2) 2 [0, 5, 7, 31] [(0, pt m 0), (5, .int .i64 1), (7, .int .i64 0), (31, .bool true)] (by kernel_rfl) rfl ?_
           refine GL.k rfl hK537 (fun _ _ h => h) ?_
           refine G.yes rfl ?_
           refine G.skipK hK535 (fun _ _ h => h) ?_
           refine G.seqK fun K538 hK539 => ?_
           refine G.block ?_
           refine G.seqK fun K540 hK541 => ?_
           refine G.region ?_
           refine GL.run (j := 5) 5 [0, 5, 7, 38] [(0, pt m 0), (5, .int .i64 1), (7, .int .i64 0), (38, pt m 3)] (by kernel_rfl) rfl ?_
           refine GL.sem (j := 6) (H.ld (o := 3) (ty := 3) (v := .int .i64 (a0.p : Int)) 0 rfl (by kernel_rfl) rfl) [0, 5, 7, 39] [(0, pt m 0), (5, .int .i64 1), (7, .int .i64 0), (39, .int .i64 (a0.p : Int))] (by kernel_rfl) (by kernel_rfl) rfl ?_
           refine GL.run (j := 7) 1 [0, 5, 7, 40] [(0, pt m 0), (5, .int .i64 1), (7, .int .i64 0), (40, .bool (decide (4 ≤ (a0.p : Int))))] (by kernel_rfl) rfl ?_
           refine GL.k rfl hK541 (fun _ _ h => h) ?_
           cases hb542 : (decide (4 ≤ (a0.p : Int)))
           · skip
             have hb542f := of_decide_eq_false hb542
             refine G.no rfl ?_
             refine G.skipK hK539 (fun _ _ h => h) ?_
             refine G.region ?_
             refine GL.run (j := 3) 3 [0, 5, 7] [(0, pt m 0), (5, .int .i64 1), (7, .int .i64 (-1))] (by kernel_rfl) rfl ?_
             refine GL.round rfl ?_
             refine G.seqK fun K543 hK544 => ?_
             refine G.seqK fun K545 hK546 => ?_
             refine G.region ?_
             refine GL.run (j := 2) 2 [0, 5, 7, 31] [(0, pt m 0), (5, .int .i64 1), (7, .int .i64 (-1)), (31, .bool false)] (by kernel_rfl) rfl ?_
             refine GL.k rfl hK546 (fun _ _ h => h) ?_
             refine G.no rfl ?_
             refine G.exitK hK496 (fun _ _ h => h) ?_
             have e0 : tkN a0 a1 a2 = 1 := by
               unfold tkN
               repeat' split
               all_goals omega
             exact absurd (htk.symm.trans e0) (by decide)
           · skip
             have hb542f := of_decide_eq_true hb542
             refine G.yes rfl ?_
             refine G.region ?_
             refine GL.run (j := 2) 2 [0, 5, 7] [(0, pt m 0), (5, .int .i64 0), (7, .int .i64 0)] (by kernel_rfl) rfl ?_
             refine GL.k rfl hK539 (fun _ _ h => h) ?_
             refine G.region ?_
             refine GL.run (j := 3) 3 [0, 5, 7] [(0, pt m 0), (5, .int .i64 0), (7, .int .i64 (-1))] (by kernel_rfl) rfl ?_
             refine GL.round rfl ?_
             refine G.seqK fun K547 hK548 => ?_
             refine G.seqK fun K549 hK550 => ?_
             refine G.region ?_
             refine GL.run (j := 2) 2 [0, 5, 7, 31] [(0, pt m 0), (5, .int .i64 0), (7, .int .i64 (-1)), (31, .bool false)] (by kernel_rfl) rfl ?_
             refine GL.k rfl hK550 (fun _ _ h => h) ?_
             refine G.no rfl ?_
             refine G.exitK hK496 (fun _ _ h => h) ?_
             have e0 : tkN a0 a1 a2 = 0 := by
               unfold tkN
               repeat' split
               all_goals omega
             exact absurd (htk.symm.trans e0) (by decide)
       · skip
         have hb507f := of_decide_eq_true hb507
         refine G.yes rfl ?_
         refine G.region ?_
         refine GL.run (j := 2) 2 [0, 5, 7] [(0, pt m 0), (5, .int .i64 2), (7, .int .i64 2)] (by kernel_rfl) rfl ?_
         refine GL.k rfl hK504 (fun _ _ h => h) ?_
         refine G.region ?_
         refine GL.run (j := 3) 3 [0, 5, 7] [(0, pt m 0), (5, .int .i64 2), (7, .int .i64 1)] (by kernel_rfl) rfl ?_
         refine GL.round rfl ?_
         refine G.seqK fun K551 hK552 => ?_
         refine G.seqK fun K553 hK554 => ?_
         refine G.region ?_
         refine GL.run (j := 2) 2 [0, 5, 7, 31] [(0, pt m 0), (5, .int .i64 2), (7, .int .i64 1), (31, .bool true)] (by kernel_rfl) rfl ?_
         refine GL.k rfl hK554 (fun _ _ h => h) ?_
         refine G.yes rfl ?_
         refine G.skipK hK552 (fun _ _ h => h) ?_
         refine G.seqK fun K555 hK556 => ?_
         refine G.block ?_
         refine G.seqK fun K557 hK558 => ?_
         refine G.region ?_
         refine GL.run (j := 5) 5 [0, 5, 7, 38] [(0, pt m 0), (5, .int .i64 2), (7, .int .i64 1), (38, pt m 4)] (by kernel_rfl) rfl ?_
         refine GL.sem (j := 6) (H.ld (o := 4) (ty := 3) (v := .int .i64 (a1.p : Int)) 0 rfl (by kernel_rfl) rfl) [0, 5, 7, 39] [(0, pt m 0), (5, .int .i64 2), (7, .int .i64 1), (39, .int .i64 (a1.p : Int))] (by kernel_rfl) (by kernel_rfl) rfl ?_
         refine GL.run (j := 7) 1 [0, 5, 7, 40] [(0, pt m 0), (5, .int .i64 2), (7, .int .i64 1), (40, .bool (decide (4 ≤ (a1.p : Int))))] (by kernel_rfl) rfl ?_
         refine GL.k rfl hK558 (fun _ _ h => h) ?_
         cases hb559 : (decide (4 ≤ (a1.p : Int)))
         · skip
           have hb559f := of_decide_eq_false hb559
           refine G.no rfl ?_
           refine G.skipK hK556 (fun _ _ h => h) ?_
           refine G.region ?_
           refine GL.run (j := 3) 3 [0, 5, 7] [(0, pt m 0), (5, .int .i64 2), (7, .int .i64 0)] (by kernel_rfl) rfl ?_
           refine GL.round rfl ?_
           refine G.seqK fun K560 hK561 => ?_
           refine G.seqK fun K562 hK563 => ?_
           refine G.region ?_
           refine GL.run (j := 2) 2 [0, 5, 7, 31] [(0, pt m 0), (5, .int .i64 2), (7, .int .i64 0), (31, .bool true)] (by kernel_rfl) rfl ?_
           refine GL.k rfl hK563 (fun _ _ h => h) ?_
           refine G.yes rfl ?_
           refine G.skipK hK561 (fun _ _ h => h) ?_
           refine G.seqK fun K564 hK565 => ?_
           refine G.block ?_
           refine G.seqK fun K566 hK567 => ?_
           refine G.region ?_
           refine GL.run (j := 5) 5 [0, 5, 7, 38] [(0, pt m 0), (5, .int .i64 2), (7, .int .i64 0), (38, pt m 3)] (by kernel_rfl) rfl ?_
           refine GL.sem (j := 6) (H.ld (o := 3) (ty := 3) (v := .int .i64 (a0.p : Int)) 0 rfl (by kernel_rfl) rfl) [0, 5, 7, 39] [(0, pt m 0), (5, .int .i64 2), (7, .int .i64 0), (39, .int .i64 (a0.p : Int))] (by kernel_rfl) (by kernel_rfl) rfl ?_
           refine GL.run (j := 7) 1 [0, 5, 7, 40] [(0, pt m 0), (5, .int .i64 2), (7, .int .i64 0), (40, .bool (decide (4 ≤ (a0.p : Int))))] (by kernel_rfl) rfl ?_
           refine GL.k rfl hK567 (fun _ _ h => h) ?_
           cases hb568 : (decide (4 ≤ (a0.p : Int)))
           · skip
             have hb568f := of_decide_eq_false hb568
             refine G.no rfl ?_
             refine G.skipK hK565 (fun _ _ h => h) ?_
             refine G.region ?_
             refine GL.run (j := 3) 3 [0, 5, 7] [(0, pt m 0), (5, .int .i64 2), (7, .int .i64 (-1))] (by kernel_rfl) rfl ?_
             refine GL.round rfl ?_
             refine G.seqK fun K569 hK570 => ?_
             refine G.seqK fun K571 hK572 => ?_
             refine G.region ?_
             refine GL.run (j := 2) 2 [0, 5, 7, 31] [(0, pt m 0), (5, .int .i64 2), (7, .int .i64 (-1)), (31, .bool false)] (by kernel_rfl) rfl ?_
             refine GL.k rfl hK572 (fun _ _ h => h) ?_
             refine G.no rfl ?_
             refine G.exitK hK496 (fun _ _ h => h) ?_
             have e0 : tkN a0 a1 a2 = 2 := by
               unfold tkN
               repeat' split
               all_goals omega
             refine G.fit [0, 5] (M' := [(0, pt m 0), (5, .int .i64 2)]) (by kernel_rfl) ?_
             exact J494 () _ ⟨trivial, H⟩
           · skip
             have hb568f := of_decide_eq_true hb568
             refine G.yes rfl ?_
             refine G.region ?_
             refine GL.run (j := 2) 2 [0, 5, 7] [(0, pt m 0), (5, .int .i64 0), (7, .int .i64 0)] (by kernel_rfl) rfl ?_
             refine GL.k rfl hK565 (fun _ _ h => h) ?_
             refine G.region ?_
             refine GL.run (j := 3) 3 [0, 5, 7] [(0, pt m 0), (5, .int .i64 0), (7, .int .i64 (-1))] (by kernel_rfl) rfl ?_
             refine GL.round rfl ?_
             refine G.seqK fun K573 hK574 => ?_
             refine G.seqK fun K575 hK576 => ?_
             refine G.region ?_
             refine GL.run (j := 2) 2 [0, 5, 7, 31] [(0, pt m 0), (5, .int .i64 0), (7, .int .i64 (-1)), (31, .bool false)] (by kernel_rfl) rfl ?_
             refine GL.k rfl hK576 (fun _ _ h => h) ?_
             refine G.no rfl ?_
             refine G.exitK hK496 (fun _ _ h => h) ?_
             have e0 : tkN a0 a1 a2 = 0 := by
               unfold tkN
               repeat' split
               all_goals omega
             exact absurd (htk.symm.trans e0) (by decide)
         · skip
           have hb559f := of_decide_eq_true hb559
           refine G.yes rfl ?_
           refine G.region ?_
           refine GL.run (j := 2) 2 [0, 5, 7] [(0, pt m 0), (5, .int .i64 1), (7, .int .i64 1)] (by kernel_rfl) rfl ?_
           refine GL.k rfl hK556 (fun _ _ h => h) ?_
           refine G.region ?_
           refine GL.run (j := 3) 3 [0, 5, 7] [(0, pt m 0), (5, .int .i64 1), (7, .int .i64 0)] (by kernel_rfl) rfl ?_
           refine GL.round rfl ?_
           refine G.seqK fun K577 hK578 => ?_
           refine G.seqK fun K579 hK580 => ?_
           refine G.region ?_
           refine GL.run (j := 2) 2 [0, 5, 7, 31] [(0, pt m 0), (5, .int .i64 1), (7, .int .i64 0), (31, .bool true)] (by kernel_rfl) rfl ?_
           refine GL.k rfl hK580 (fun _ _ h => h) ?_
           refine G.yes rfl ?_
           refine G.skipK hK578 (fun _ _ h => h) ?_
           refine G.seqK fun K581 hK582 => ?_
           refine G.block ?_
           refine G.seqK fun K583 hK584 => ?_
           refine G.region ?_
           refine GL.run (j := 5) 5 [0, 5, 7, 38] [(0, pt m 0), (5, .int .i64 1), (7, .int .i64 0), (38, pt m 3)] (by kernel_rfl) rfl ?_
           refine GL.sem (j := 6) (H.ld (o := 3) (ty := 3) (v := .int .i64 (a0.p : Int)) 0 rfl (by kernel_rfl) rfl) [0, 5, 7, 39] [(0, pt m 0), (5, .int .i64 1), (7, .int .i64 0), (39, .int .i64 (a0.p : Int))] (by kernel_rfl) (by kernel_rfl) rfl ?_
           refine GL.run (j := 7) 1 [0, 5, 7, 40] [(0, pt m 0), (5, .int .i64 1), (7, .int .i64 0), (40, .bool (decide (4 ≤ (a0.p : Int))))] (by kernel_rfl) rfl ?_
           refine GL.k rfl hK584 (fun _ _ h => h) ?_
           cases hb585 : (decide (4 ≤ (a0.p : Int)))
           · skip
             have hb585f := of_decide_eq_false hb585
             refine G.no rfl ?_
             refine G.skipK hK582 (fun _ _ h => h) ?_
             refine G.region ?_
             refine GL.run (j := 3) 3 [0, 5, 7] [(0, pt m 0), (5, .int .i64 1), (7, .int .i64 (-1))] (by kernel_rfl) rfl ?_
             refine GL.round rfl ?_
             refine G.seqK fun K586 hK587 => ?_
             refine G.seqK fun K588 hK589 => ?_
             refine G.region ?_
             refine GL.run (j := 2) 2 [0, 5, 7, 31] [(0, pt m 0), (5, .int .i64 1), (7, .int .i64 (-1)), (31, .bool false)] (by kernel_rfl) rfl ?_
             refine GL.k rfl hK589 (fun _ _ h => h) ?_
             refine G.no rfl ?_
             refine G.exitK hK496 (fun _ _ h => h) ?_
             have e0 : tkN a0 a1 a2 = 1 := by
               unfold tkN
               repeat' split
               all_goals omega
             exact absurd (htk.symm.trans e0) (by decide)
           · skip
             have hb585f := of_decide_eq_true hb585
             refine G.yes rfl ?_
             refine G.region ?_
             refine GL.run (j := 2) 2 [0, 5, 7] [(0, pt m 0), (5, .int .i64 0), (7, .int .i64 0)] (by kernel_rfl) rfl ?_
             refine GL.k rfl hK582 (fun _ _ h => h) ?_
             refine G.region ?_
             refine GL.run (j := 3) 3 [0, 5, 7] [(0, pt m 0), (5, .int .i64 0), (7, .int .i64 (-1))] (by kernel_rfl) rfl ?_
             refine GL.round rfl ?_
             refine G.seqK fun K590 hK591 => ?_
             refine G.seqK fun K592 hK593 => ?_
             refine G.region ?_
             refine GL.run (j := 2) 2 [0, 5, 7, 31] [(0, pt m 0), (5, .int .i64 0), (7, .int .i64 (-1)), (31, .bool false)] (by kernel_rfl) rfl ?_
             refine GL.k rfl hK593 (fun _ _ h => h) ?_
             refine G.no rfl ?_
             refine G.exitK hK496 (fun _ _ h => h) ?_
             have e0 : tkN a0 a1 a2 = 0 := by
               unfold tkN
               repeat' split
               all_goals omega
             exact absurd (htk.symm.trans e0) (by decide)
     · skip
       rintro _ w594 ⟨hi595, H596⟩
       refine G.eq (M' := [(0, pt m 0), (5, .int .i64 2)]) rfl ?_
       have H596 : Hp w S [.blk m [.slice q0 a0.l.length k0, .slice q1 a1.l.length k1, .slice q2 a2.l.length k2, .int .i64 (a0.p : Int), .int .i64 (a1.p : Int), .int .i64 (a2.p : Int), .bool cl] 39, .que q0 a0.l.length k0 9 (mq a0.l), .que q1 a1.l.length k1 9 (mq a1.l), .que q2 a2.l.length k2 9 (mq a2.l)] w594 := H596
       refine G.seqK fun K597 hK598 => ?_
       refine G.seqK fun K599 hK600 => ?_
       refine G.region ?_
       refine GL.run (j := 1) 1 [0, 5, 42] [(0, pt m 0), (5, .int .i64 2), (42, .int .i64 0)] (by kernel_rfl) rfl ?_
       refine GL.k rfl hK600 (fun _ _ h => h) ?_
       refine G.block ?_
       refine G.unroll 3 ?_
       refine G.seqK fun K601 hK602 => ?_
       refine G.region ?_
       refine GL.run (j := 1) 1 [0, 5, 42, 43] [(0, pt m 0), (5, .int .i64 2), (42, .int .i64 0), (43, .bool true)] (by kernel_rfl) rfl ?_
       refine GL.k rfl hK602 (fun _ _ h => h) ?_
       refine G.seqK fun K603 hK604 => ?_
       refine G.yes rfl ?_
       refine G.skipK hK604 (fun _ _ h => h) ?_
       refine G.seqK fun K605 hK606 => ?_
       refine G.block ?_
       refine G.seqK fun K607 hK608 => ?_
       refine G.region ?_
       refine GL.run (j := 2) 2 [0, 5, 8, 42] [(0, pt m 0), (5, .int .i64 2), (8, .int .i64 0), (42, .int .i64 0)] (by kernel_rfl) rfl ?_
       refine GL.k rfl hK608 (fun _ _ h => h) ?_
       refine G.seqK fun K609 hK610 => ?_
       refine G.region ?_
       refine GL.run (j := 5) 5 [0, 5, 8, 42, 49] [(0, pt m 0), (5, .int .i64 2), (8, .int .i64 0), (42, .int .i64 0), (49, pt m 0)] (by kernel_rfl) rfl ?_
       refine GL.sem (j := 6) (H596.ld (o := 0) (ty := 36) (v := .slice q0 a0.l.length k0) 0 rfl (by kernel_rfl) rfl) [0, 5, 8, 42, 50] [(0, pt m 0), (5, .int .i64 2), (8, .int .i64 0), (42, .int .i64 0), (50, .slice q0 a0.l.length k0)] (by kernel_rfl) (by kernel_rfl) rfl ?_
       refine GL.run (j := 8) 2 [0, 5, 8, 42, 52] [(0, pt m 0), (5, .int .i64 2), (8, .int .i64 0), (42, .int .i64 0), (52, .bool (decide (0 < (a0.l.length : Int))))] (by kernel_rfl) rfl ?_
       refine GL.k rfl hK610 (fun _ _ h => h) ?_
       have hb611 : (decide (0 < (a0.l.length : Int))) = true := by assumption
       rw [hb611]
       refine G.yes rfl ?_
       refine G.tail 10 (by kernel_rfl) (by kernel_rfl) ?_
       have H612 := H596.drew
       generalize ({ w594 with drawn := w594.drawn + 1 } : World) = w613 at H612 ⊢
       refine GS.run (j := 5) 5 [0, 5, 42, 53, 54, 57] [(0, pt m 0), (5, .int .i64 2), (42, .int .i64 0), (53, pt m 0), (54, .int .i64 0), (57, pt m 3)] (by kernel_rfl) rfl rfl ?_
       refine GS.sem (j := 6) (H612.ld (o := 3) (ty := 3) (v := .int .i64 (a0.p : Int)) 0 rfl (by kernel_rfl) rfl) [0, 5, 42, 53, 54, 58] [(0, pt m 0), (5, .int .i64 2), (42, .int .i64 0), (53, pt m 0), (54, .int .i64 0), (58, .int .i64 (a0.p : Int))] (by kernel_rfl) (by kernel_rfl) rfl rfl ?_
       refine GS.run (j := 10) 4 [0, 5, 42, 59, 62] [(0, pt m 0), (5, .int .i64 2), (42, .int .i64 0), (59, .int .i64 (IntKind.i64.wrap ((a0.p : Int) + 1))), (62, pt m 3)] (by kernel_rfl) rfl rfl ?_
       have e614 : (IntKind.i64.wrap ((a0.p : Int) + 1)) = ((a0.p + 1 : Nat) : Int) := by rw [in_i64 (by omega)]; omega
       refine GS.eq (M' := [(0, pt m 0), (5, .int .i64 2), (42, .int .i64 0), (59, .int .i64 ((a0.p + 1 : Nat) : Int)), (62, pt m 3)]) (by rw [e614]) ?_
       clear e614
       refine GS.tail rfl ?_
       obtain ⟨w615, r616, H617⟩ := H612.st (P := Try.prog) (o := 3) (ty := 3) (v := .int .i64 ((a0.p + 1 : Nat) : Int)) 0 rfl (by kernel_rfl) (by simp) rfl
       have H617 : Hp w S [.blk m [.slice q0 a0.l.length k0, .slice q1 a1.l.length k1, .slice q2 a2.l.length k2, .int .i64 ((a0.p + 1 : Nat) : Int), .int .i64 (a1.p : Int), .int .i64 (a2.p : Int), .bool cl] 39, .que q0 a0.l.length k0 9 (mq a0.l), .que q1 a1.l.length k1 9 (mq a1.l), .que q2 a2.l.length k2 9 (mq a2.l)] w615 := H617
       refine GL.semU (j := 11) r616 [0, 5, 42] [(0, pt m 0), (5, .int .i64 2), (42, .int .i64 0)] (by kernel_rfl) rfl rfl rfl ?_
       refine GL.k rfl hK606 (fun _ _ h => h) ?_
       refine G.region ?_
       refine GL.run (j := 2) 2 [0, 5, 42] [(0, pt m 0), (5, .int .i64 2), (42, .int .i64 1)] (by kernel_rfl) rfl ?_
       refine GL.round rfl ?_
       refine G.seqK fun K618 hK619 => ?_
       refine G.region ?_
       refine GL.run (j := 1) 1 [0, 5, 42, 43] [(0, pt m 0), (5, .int .i64 2), (42, .int .i64 1), (43, .bool true)] (by kernel_rfl) rfl ?_
       refine GL.k rfl hK619 (fun _ _ h => h) ?_
       refine G.seqK fun K620 hK621 => ?_
       refine G.yes rfl ?_
       refine G.skipK hK621 (fun _ _ h => h) ?_
       refine G.seqK fun K622 hK623 => ?_
       refine G.block ?_
       refine G.seqK fun K624 hK625 => ?_
       refine G.region ?_
       refine GL.run (j := 2) 2 [0, 5, 8, 42] [(0, pt m 0), (5, .int .i64 2), (8, .int .i64 1), (42, .int .i64 1)] (by kernel_rfl) rfl ?_
       refine GL.k rfl hK625 (fun _ _ h => h) ?_
       refine G.seqK fun K626 hK627 => ?_
       refine G.region ?_
       refine GL.run (j := 5) 5 [0, 5, 8, 42, 49] [(0, pt m 0), (5, .int .i64 2), (8, .int .i64 1), (42, .int .i64 1), (49, pt m 1)] (by kernel_rfl) rfl ?_
       refine GL.sem (j := 6) (H617.ld (o := 1) (ty := 36) (v := .slice q1 a1.l.length k1) 0 rfl (by kernel_rfl) rfl) [0, 5, 8, 42, 50] [(0, pt m 0), (5, .int .i64 2), (8, .int .i64 1), (42, .int .i64 1), (50, .slice q1 a1.l.length k1)] (by kernel_rfl) (by kernel_rfl) rfl ?_
       refine GL.run (j := 8) 2 [0, 5, 8, 42, 52] [(0, pt m 0), (5, .int .i64 2), (8, .int .i64 1), (42, .int .i64 1), (52, .bool (decide (0 < (a1.l.length : Int))))] (by kernel_rfl) rfl ?_
       refine GL.k rfl hK627 (fun _ _ h => h) ?_
       have hb628 : (decide (0 < (a1.l.length : Int))) = true := by assumption
       rw [hb628]
       refine G.yes rfl ?_
       refine G.tail 10 (by kernel_rfl) (by kernel_rfl) ?_
       have H629 := H617.drew
       generalize ({ w615 with drawn := w615.drawn + 1 } : World) = w630 at H629 ⊢
       refine GS.run (j := 5) 5 [0, 5, 42, 53, 54, 57] [(0, pt m 0), (5, .int .i64 2), (42, .int .i64 1), (53, pt m 0), (54, .int .i64 1), (57, pt m 4)] (by kernel_rfl) rfl rfl ?_
       refine GS.sem (j := 6) (H629.ld (o := 4) (ty := 3) (v := .int .i64 (a1.p : Int)) 0 rfl (by kernel_rfl) rfl) [0, 5, 42, 53, 54, 58] [(0, pt m 0), (5, .int .i64 2), (42, .int .i64 1), (53, pt m 0), (54, .int .i64 1), (58, .int .i64 (a1.p : Int))] (by kernel_rfl) (by kernel_rfl) rfl rfl ?_
       refine GS.run (j := 10) 4 [0, 5, 42, 59, 62] [(0, pt m 0), (5, .int .i64 2), (42, .int .i64 1), (59, .int .i64 (IntKind.i64.wrap ((a1.p : Int) + 1))), (62, pt m 4)] (by kernel_rfl) rfl rfl ?_
       have e631 : (IntKind.i64.wrap ((a1.p : Int) + 1)) = ((a1.p + 1 : Nat) : Int) := by rw [in_i64 (by omega)]; omega
       refine GS.eq (M' := [(0, pt m 0), (5, .int .i64 2), (42, .int .i64 1), (59, .int .i64 ((a1.p + 1 : Nat) : Int)), (62, pt m 4)]) (by rw [e631]) ?_
       clear e631
       refine GS.tail rfl ?_
       obtain ⟨w632, r633, H634⟩ := H629.st (P := Try.prog) (o := 4) (ty := 3) (v := .int .i64 ((a1.p + 1 : Nat) : Int)) 0 rfl (by kernel_rfl) (by simp) rfl
       have H634 : Hp w S [.blk m [.slice q0 a0.l.length k0, .slice q1 a1.l.length k1, .slice q2 a2.l.length k2, .int .i64 ((a0.p + 1 : Nat) : Int), .int .i64 ((a1.p + 1 : Nat) : Int), .int .i64 (a2.p : Int), .bool cl] 39, .que q0 a0.l.length k0 9 (mq a0.l), .que q1 a1.l.length k1 9 (mq a1.l), .que q2 a2.l.length k2 9 (mq a2.l)] w632 := H634
       refine GL.semU (j := 11) r633 [0, 5, 42] [(0, pt m 0), (5, .int .i64 2), (42, .int .i64 1)] (by kernel_rfl) rfl rfl rfl ?_
       refine GL.k rfl hK623 (fun _ _ h => h) ?_
       refine G.region ?_
       refine GL.run (j := 2) 2 [0, 5, 42] [(0, pt m 0), (5, .int .i64 2), (42, .int .i64 2)] (by kernel_rfl) rfl ?_
       refine GL.round rfl ?_
       refine G.seqK fun K635 hK636 => ?_
       refine G.region ?_
       refine GL.run (j := 1) 1 [0, 5, 42, 43] [(0, pt m 0), (5, .int .i64 2), (42, .int .i64 2), (43, .bool true)] (by kernel_rfl) rfl ?_
       refine GL.k rfl hK636 (fun _ _ h => h) ?_
       refine G.seqK fun K637 hK638 => ?_
       refine G.yes rfl ?_
       refine G.skipK hK638 (fun _ _ h => h) ?_
       refine G.seqK fun K639 hK640 => ?_
       refine G.block ?_
       refine G.seqK fun K641 hK642 => ?_
       refine G.region ?_
       refine GL.run (j := 2) 2 [0, 5, 8, 42] [(0, pt m 0), (5, .int .i64 2), (8, .int .i64 2), (42, .int .i64 2)] (by kernel_rfl) rfl ?_
       refine GL.k rfl hK642 (fun _ _ h => h) ?_
       refine G.seqK fun K643 hK644 => ?_
       refine G.region ?_
       refine GL.run (j := 5) 5 [0, 5, 8, 42, 49] [(0, pt m 0), (5, .int .i64 2), (8, .int .i64 2), (42, .int .i64 2), (49, pt m 2)] (by kernel_rfl) rfl ?_
       refine GL.sem (j := 6) (H634.ld (o := 2) (ty := 36) (v := .slice q2 a2.l.length k2) 0 rfl (by kernel_rfl) rfl) [0, 5, 8, 42, 50] [(0, pt m 0), (5, .int .i64 2), (8, .int .i64 2), (42, .int .i64 2), (50, .slice q2 a2.l.length k2)] (by kernel_rfl) (by kernel_rfl) rfl ?_
       refine GL.run (j := 8) 2 [0, 5, 8, 42, 52] [(0, pt m 0), (5, .int .i64 2), (8, .int .i64 2), (42, .int .i64 2), (52, .bool (decide (0 < (a2.l.length : Int))))] (by kernel_rfl) rfl ?_
       refine GL.k rfl hK644 (fun _ _ h => h) ?_
       have hb645 : (decide (0 < (a2.l.length : Int))) = true := by assumption
       rw [hb645]
       refine G.yes rfl ?_
       refine G.tail 10 (by kernel_rfl) (by kernel_rfl) ?_
       have H646 := H634.drew
       generalize ({ w632 with drawn := w632.drawn + 1 } : World) = w647 at H646 ⊢
       refine GS.run (j := 5) 5 [0, 5, 42, 53, 54, 57] [(0, pt m 0), (5, .int .i64 2), (42, .int .i64 2), (53, pt m 0), (54, .int .i64 2), (57, pt m 5)] (by kernel_rfl) rfl rfl ?_
       refine GS.sem (j := 6) (H646.ld (o := 5) (ty := 3) (v := .int .i64 (a2.p : Int)) 0 rfl (by kernel_rfl) rfl) [0, 5, 42, 53, 54, 58] [(0, pt m 0), (5, .int .i64 2), (42, .int .i64 2), (53, pt m 0), (54, .int .i64 2), (58, .int .i64 (a2.p : Int))] (by kernel_rfl) (by kernel_rfl) rfl rfl ?_
       refine GS.run (j := 10) 4 [0, 5, 42, 59, 62] [(0, pt m 0), (5, .int .i64 2), (42, .int .i64 2), (59, .int .i64 (IntKind.i64.wrap ((a2.p : Int) + 1))), (62, pt m 5)] (by kernel_rfl) rfl rfl ?_
       have e648 : (IntKind.i64.wrap ((a2.p : Int) + 1)) = ((a2.p + 1 : Nat) : Int) := by rw [in_i64 (by omega)]; omega
       refine GS.eq (M' := [(0, pt m 0), (5, .int .i64 2), (42, .int .i64 2), (59, .int .i64 ((a2.p + 1 : Nat) : Int)), (62, pt m 5)]) (by rw [e648]) ?_
       clear e648
       refine GS.tail rfl ?_
       obtain ⟨w649, r650, H651⟩ := H646.st (P := Try.prog) (o := 5) (ty := 3) (v := .int .i64 ((a2.p + 1 : Nat) : Int)) 0 rfl (by kernel_rfl) (by simp) rfl
       have H651 : Hp w S [.blk m [.slice q0 a0.l.length k0, .slice q1 a1.l.length k1, .slice q2 a2.l.length k2, .int .i64 ((a0.p + 1 : Nat) : Int), .int .i64 ((a1.p + 1 : Nat) : Int), .int .i64 ((a2.p + 1 : Nat) : Int), .bool cl] 39, .que q0 a0.l.length k0 9 (mq a0.l), .que q1 a1.l.length k1 9 (mq a1.l), .que q2 a2.l.length k2 9 (mq a2.l)] w649 := H651
       refine GL.semU (j := 11) r650 [0, 5, 42] [(0, pt m 0), (5, .int .i64 2), (42, .int .i64 2)] (by kernel_rfl) rfl rfl rfl ?_
       refine GL.k rfl hK640 (fun _ _ h => h) ?_
       refine G.region ?_
       refine GL.run (j := 2) 2 [0, 5, 42] [(0, pt m 0), (5, .int .i64 2), (42, .int .i64 3)] (by kernel_rfl) rfl ?_
       refine GL.round rfl ?_
       refine G.seqK fun K652 hK653 => ?_
       refine G.region ?_
       refine GL.run (j := 1) 1 [0, 5, 42, 43] [(0, pt m 0), (5, .int .i64 2), (42, .int .i64 3), (43, .bool false)] (by kernel_rfl) rfl ?_
       refine GL.k rfl hK653 (fun _ _ h => h) ?_
       refine G.seqK fun K654 hK655 => ?_
       refine G.no rfl ?_
       refine G.exitK hK598 (fun _ _ h => h) ?_
       refine G.seqK fun K656 hK657 => ?_
       refine G.region ?_
       refine GL.run (j := 5) 5 [0, 5, 68] [(0, pt m 0), (5, .int .i64 2), (68, pt m 5)] (by kernel_rfl) rfl ?_
       obtain ⟨w658, r659, H660⟩ := H651.st (P := Try.prog) (o := 5) (ty := 3) (v := .int .i64 0) 0 rfl (by kernel_rfl) (by simp) rfl
       have H660 : Hp w S [.blk m [.slice q0 a0.l.length k0, .slice q1 a1.l.length k1, .slice q2 a2.l.length k2, .int .i64 ((a0.p + 1 : Nat) : Int), .int .i64 ((a1.p + 1 : Nat) : Int), .int .i64 0, .bool cl] 39, .que q0 a0.l.length k0 9 (mq a0.l), .que q1 a1.l.length k1 9 (mq a1.l), .que q2 a2.l.length k2 9 (mq a2.l)] w658 := H660
       refine GL.semU (j := 6) r659 [0, 5] [(0, pt m 0), (5, .int .i64 2)] (by kernel_rfl) rfl rfl rfl ?_
       refine GL.k rfl hK657 (fun _ _ h => h) ?_
       refine G.seqK fun K661 hK662 => ?_
       refine G.region ?_
       refine GL.run (j := 5) 5 [0, 5, 73] [(0, pt m 0), (5, .int .i64 2), (73, pt m 2)] (by kernel_rfl) rfl ?_
       refine GL.sem (j := 6) (H660.ld (o := 2) (ty := 36) (v := .slice q2 a2.l.length k2) 0 rfl (by kernel_rfl) rfl) [0, 5, 74] [(0, pt m 0), (5, .int .i64 2), (74, .slice q2 a2.l.length k2)] (by kernel_rfl) (by kernel_rfl) rfl ?_
       refine GL.sem (j := 7) (run_idxRd (P := Try.prog) (k := .i64) (t := 36) (A := q2) (len := a2.l.length) (cap := k2) (j := 0) (by kernel_rfl) rfl (H660.rdQue 3 rfl) (mq_length _) (by omega)) [0, 5, 75] [(0, pt m 0), (5, .int .i64 2), (75, .pointer (Option.map (fun x => Addr.add x 0) q2))] (by kernel_rfl) (by kernel_rfl) rfl ?_
       refine GL.sem (j := 8) (run_ldRd (P := Try.prog) (ty := 9) (A := q2) (j := 0) (v := .string (strOf m_.b)) (by kernel_rfl) (H660.rdQue 3 rfl) (by rw [hmq]; rfl)) [0, 5, 76] [(0, pt m 0), (5, .int .i64 2), (76, .string (strOf m_.b))] (by kernel_rfl) (by kernel_rfl) rfl ?_
       refine GL.run (j := 9) 1 [0, 5, 9] [(0, pt m 0), (5, .int .i64 2), (9, .string (strOf m_.b))] (by kernel_rfl) rfl ?_
       refine GL.k rfl hK662 (fun _ _ h => h) ?_
       refine G.seqK fun K663 hK664 => ?_
       refine G.tail 12 (by kernel_rfl) (by kernel_rfl) ?_
       have H665 := H660.drew
       generalize ({ w658 with drawn := w658.drawn + 1 } : World) = w666 at H665 ⊢
       refine GS.run (j := 7) 7 [5, 9, 77, 78, 83] [(5, .int .i64 2), (9, .string (strOf m_.b)), (77, pt m 0), (78, .int .i64 2), (83, pt m 2)] (by kernel_rfl) rfl rfl ?_
       refine GS.sem (j := 8) (H665.ld (o := 2) (ty := 36) (v := .slice q2 a2.l.length k2) 0 rfl (by kernel_rfl) rfl) [5, 9, 77, 78, 84] [(5, .int .i64 2), (9, .string (strOf m_.b)), (77, pt m 0), (78, .int .i64 2), (84, .slice q2 a2.l.length k2)] (by kernel_rfl) (by kernel_rfl) rfl rfl ?_
       refine GS.sem (j := 9) (run_tail1 (P := Try.prog) (t := 36) (n := a2.l.length) (c := k2) (A := q2) (by kernel_rfl) (by omega) (by omega)) [5, 9, 77, 78, 85] [(5, .int .i64 2), (9, .string (strOf m_.b)), (77, pt m 0), (78, .int .i64 2), (85, .slice (if k2 = 1 then q2 else q2.map fun a => Addr.add a 1) (a2.l.length - 1) (k2 - 1))] (by kernel_rfl) (by kernel_rfl) rfl rfl ?_
       refine GS.run (j := 12) 3 [5, 9, 85, 88] [(5, .int .i64 2), (9, .string (strOf m_.b)), (85, .slice (if k2 = 1 then q2 else q2.map fun a => Addr.add a 1) (a2.l.length - 1) (k2 - 1)), (88, pt m 2)] (by kernel_rfl) rfl rfl ?_
       refine GS.tail rfl ?_
       obtain ⟨w667, r668, H669⟩ := H665.st (P := Try.prog) (o := 2) (ty := 36) (v := .slice (if k2 = 1 then q2 else q2.map fun a => Addr.add a 1) (a2.l.length - 1) (k2 - 1)) 0 rfl (by kernel_rfl) (by simp) rfl
       have H669 : Hp w S [.blk m [.slice q0 a0.l.length k0, .slice q1 a1.l.length k1, .slice (if k2 = 1 then q2 else q2.map fun a => Addr.add a 1) (a2.l.length - 1) (k2 - 1), .int .i64 ((a0.p + 1 : Nat) : Int), .int .i64 ((a1.p + 1 : Nat) : Int), .int .i64 0, .bool cl] 39, .que q0 a0.l.length k0 9 (mq a0.l), .que q1 a1.l.length k1 9 (mq a1.l), .que q2 a2.l.length k2 9 (mq a2.l)] w667 := H669
       refine GL.semU (j := 13) r668 [5, 9] [(5, .int .i64 2), (9, .string (strOf m_.b))] (by kernel_rfl) rfl rfl rfl ?_
       refine GL.k rfl hK664 (fun _ _ h => h) ?_
       refine G.seqK fun K670 hK671 => ?_
       refine G.region ?_
       refine GL.run (j := 5) 5 [2, 3, 4] [(2, .string (strOf m_.b)), (3, .int .i64 2), (4, .bool true)] (by kernel_rfl) rfl ?_
       refine GL.k rfl hK671 (fun _ _ h => h) ?_
       refine G.ret ?_
       intro F_ hF_ hM_
       refine hRet _ _ (bodyPost_3 rfl (RV.tmp rfl) (RV.tmp rfl) (RV.tmp rfl) ?_ F_ hF_ hM_)
       have HT := H669.queTail 3 (x := .string (strOf m_.b)) (xs := mq t_) (by rw [← hmq]; rfl) (by rw [mq_length, hlk]; rfl)
       have HZ : Hp w S [.blk m [.slice q0 a0.pass.l.length k0, .slice q1 a1.pass.l.length k1, .slice (if k2 = 1 then q2 else q2.map fun a => Addr.add a 1) ((a2.took t_).l.length) (k2 - 1), .int .i64 (a0.pass.p : Int), .int .i64 (a1.pass.p : Int), .int .i64 (((a2.took t_).p : Nat) : Int), .bool cl] 39, .que q0 a0.pass.l.length k0 9 (mq a0.pass.l), .que q1 a1.pass.l.length k1 9 (mq a1.pass.l), .que (if k2 = 1 then q2 else q2.map fun a => Addr.add a 1) ((a2.took t_).l.length) (k2 - 1) 9 (mq (a2.took t_).l)] w667 := by rw [show (a2.took t_).l.length = a2.l.length - 1 by rw [hlk]; rfl, show a0.pass.p = a0.p + 1 by unfold Lane.pass; exact if_neg (by omega), show a1.pass.p = a1.p + 1 by unfold Lane.pass; exact if_neg (by omega)]; exact HT
       exact ⟨_, _, rfl, HZ⟩
set_option maxHeartbeats 4000000 in
theorem MTake3_calls (S : List Nat) (m : Nat) (q0 q1 q2 : Option Addr) (k0 k1 k2 : Nat) (cl : Bool) (a0 a1 a2 : Lane) (w : World) (h0 : Hp w S [.blk m [.slice q0 a0.l.length k0, .slice q1 a1.l.length k1, .slice q2 a2.l.length k2, .int .i64 (a0.p : Int), .int .i64 (a1.p : Int), .int .i64 (a2.p : Int), .bool cl] 39, .que q0 a0.l.length k0 9 (mq a0.l), .que q1 a1.l.length k1 9 (mq a1.l), .que q2 a2.l.length k2 9 (mq a2.l)] w) (hz0 : a0.z) (hz1 : a1.z) (hz2 : a2.z) (htk : tkN a0 a1 a2 = 3) : Calls Try.prog 11 #[pt m 0] w fun e w' => e = .returned (.tuple #[.string ⟨#[]⟩, .int .i64 0, .bool false]) ∧ Hp w S [.blk m [.slice q0 a0.l.length k0, .slice q1 a1.l.length k1, .slice q2 a2.l.length k2, .int .i64 (a0.p : Int), .int .i64 (a1.p : Int), .int .i64 (a2.p : Int), .bool cl] 39, .que q0 a0.l.length k0 9 (mq a0.l), .que q1 a1.l.length k1 9 (mq a1.l), .que q2 a2.l.length k2 9 (mq a2.l)] w' := by
 obtain ⟨he0, he1, he2⟩ := (tk_len htk).2.2.2 rfl
 refine calls_G (args := [pt m 0]) Try.func11 rfl Try.ntmps11 rfl ?_
 intro Q0 hRet hNor hPan
 have H := h0
 have H : Hp w S [.blk m [.slice q0 a0.l.length k0, .slice q1 a1.l.length k1, .slice q2 a2.l.length k2, .int .i64 (a0.p : Int), .int .i64 (a1.p : Int), .int .i64 (a2.p : Int), .bool cl] 39, .que q0 a0.l.length k0 9 (mq a0.l), .que q1 a1.l.length k1 9 (mq a1.l), .que q2 a2.l.length k2 9 (mq a2.l)] w := H
 refine G.seqK fun K1 hK2 => ?_
 refine G.region ?_
 refine GL.run (j := 3) 3 [0] [(0, pt m 0)] (by kernel_rfl) rfl ?_
 refine GL.k rfl hK2 (fun _ _ h => h) ?_
 refine G.seqK fun K3 hK4 => ?_
 refine G.region ?_
 refine GL.run (j := 1) 1 [0, 5] [(0, pt m 0), (5, .int .i64 (-1))] (by kernel_rfl) rfl ?_
 refine GL.k rfl hK4 (fun _ _ h => h) ?_
 refine G.seqK fun K5 hK6 => ?_
 refine G.seqK fun K7 hK8 => ?_
 refine G.region ?_
 refine GL.run (j := 1) 1 [0, 5, 6] [(0, pt m 0), (5, .int .i64 (-1)), (6, .int .i64 2)] (by kernel_rfl) rfl ?_
 refine GL.k rfl hK8 (fun _ _ h => h) ?_
 refine G.block ?_
 refine G.unroll 3 ?_
 refine G.seqK fun K9 hK10 => ?_
 refine G.seqK fun K11 hK12 => ?_
 refine G.region ?_
 refine GL.run (j := 2) 2 [0, 5, 6, 11] [(0, pt m 0), (5, .int .i64 (-1)), (6, .int .i64 2), (11, .bool true)] (by kernel_rfl) rfl ?_
 refine GL.k rfl hK12 (fun _ _ h => h) ?_
 refine G.yes rfl ?_
 refine G.skipK hK10 (fun _ _ h => h) ?_
 refine G.seqK fun K13 hK14 => ?_
 refine G.block ?_
 refine G.seqK fun K15 hK16 => ?_
 refine G.region ?_
 refine GL.run (j := 5) 5 [0, 5, 6, 18] [(0, pt m 0), (5, .int .i64 (-1)), (6, .int .i64 2), (18, pt m 2)] (by kernel_rfl) rfl ?_
 refine GL.sem (j := 6) (H.ld (o := 2) (ty := 36) (v := .slice q2 a2.l.length k2) 0 rfl (by kernel_rfl) rfl) [0, 5, 6, 19] [(0, pt m 0), (5, .int .i64 (-1)), (6, .int .i64 2), (19, .slice q2 a2.l.length k2)] (by kernel_rfl) (by kernel_rfl) rfl ?_
 refine GL.run (j := 8) 2 [0, 5, 6, 21] [(0, pt m 0), (5, .int .i64 (-1)), (6, .int .i64 2), (21, .bool (decide (0 < (a2.l.length : Int))))] (by kernel_rfl) rfl ?_
 refine GL.k rfl hK16 (fun _ _ h => h) ?_
 have hb17 : (decide (0 < (a2.l.length : Int))) = false := decide_eq_false (by omega)
 rw [hb17]
 refine G.no rfl ?_
 refine G.region ?_
 refine GL.run (j := 5) 5 [0, 5, 6, 27] [(0, pt m 0), (5, .int .i64 (-1)), (6, .int .i64 2), (27, pt m 5)] (by kernel_rfl) rfl ?_
 obtain ⟨w18, r19, H20⟩ := H.st (P := Try.prog) (o := 5) (ty := 3) (v := .int .i64 0) 0 rfl (by kernel_rfl) (by simp) rfl
 have H20 : Hp w S [.blk m [.slice q0 a0.l.length k0, .slice q1 a1.l.length k1, .slice q2 a2.l.length k2, .int .i64 (a0.p : Int), .int .i64 (a1.p : Int), .int .i64 0, .bool cl] 39, .que q0 a0.l.length k0 9 (mq a0.l), .que q1 a1.l.length k1 9 (mq a1.l), .que q2 a2.l.length k2 9 (mq a2.l)] w18 := H20
 refine GL.semU (j := 6) r19 [0, 5, 6] [(0, pt m 0), (5, .int .i64 (-1)), (6, .int .i64 2)] (by kernel_rfl) rfl rfl rfl ?_
 refine GL.k rfl hK14 (fun _ _ h => h) ?_
 refine G.region ?_
 refine GL.run (j := 3) 3 [0, 5, 6] [(0, pt m 0), (5, .int .i64 (-1)), (6, .int .i64 1)] (by kernel_rfl) rfl ?_
 refine GL.round rfl ?_
 refine G.seqK fun K21 hK22 => ?_
 refine G.seqK fun K23 hK24 => ?_
 refine G.region ?_
 refine GL.run (j := 2) 2 [0, 5, 6, 11] [(0, pt m 0), (5, .int .i64 (-1)), (6, .int .i64 1), (11, .bool true)] (by kernel_rfl) rfl ?_
 refine GL.k rfl hK24 (fun _ _ h => h) ?_
 refine G.yes rfl ?_
 refine G.skipK hK22 (fun _ _ h => h) ?_
 refine G.seqK fun K25 hK26 => ?_
 refine G.block ?_
 refine G.seqK fun K27 hK28 => ?_
 refine G.region ?_
 refine GL.run (j := 5) 5 [0, 5, 6, 18] [(0, pt m 0), (5, .int .i64 (-1)), (6, .int .i64 1), (18, pt m 1)] (by kernel_rfl) rfl ?_
 refine GL.sem (j := 6) (H20.ld (o := 1) (ty := 36) (v := .slice q1 a1.l.length k1) 0 rfl (by kernel_rfl) rfl) [0, 5, 6, 19] [(0, pt m 0), (5, .int .i64 (-1)), (6, .int .i64 1), (19, .slice q1 a1.l.length k1)] (by kernel_rfl) (by kernel_rfl) rfl ?_
 refine GL.run (j := 8) 2 [0, 5, 6, 21] [(0, pt m 0), (5, .int .i64 (-1)), (6, .int .i64 1), (21, .bool (decide (0 < (a1.l.length : Int))))] (by kernel_rfl) rfl ?_
 refine GL.k rfl hK28 (fun _ _ h => h) ?_
 have hb29 : (decide (0 < (a1.l.length : Int))) = false := decide_eq_false (by omega)
 rw [hb29]
 refine G.no rfl ?_
 refine G.region ?_
 refine GL.run (j := 5) 5 [0, 5, 6, 27] [(0, pt m 0), (5, .int .i64 (-1)), (6, .int .i64 1), (27, pt m 4)] (by kernel_rfl) rfl ?_
 obtain ⟨w30, r31, H32⟩ := H20.st (P := Try.prog) (o := 4) (ty := 3) (v := .int .i64 0) 0 rfl (by kernel_rfl) (by simp) rfl
 have H32 : Hp w S [.blk m [.slice q0 a0.l.length k0, .slice q1 a1.l.length k1, .slice q2 a2.l.length k2, .int .i64 (a0.p : Int), .int .i64 0, .int .i64 0, .bool cl] 39, .que q0 a0.l.length k0 9 (mq a0.l), .que q1 a1.l.length k1 9 (mq a1.l), .que q2 a2.l.length k2 9 (mq a2.l)] w30 := H32
 refine GL.semU (j := 6) r31 [0, 5, 6] [(0, pt m 0), (5, .int .i64 (-1)), (6, .int .i64 1)] (by kernel_rfl) rfl rfl rfl ?_
 refine GL.k rfl hK26 (fun _ _ h => h) ?_
 refine G.region ?_
 refine GL.run (j := 3) 3 [0, 5, 6] [(0, pt m 0), (5, .int .i64 (-1)), (6, .int .i64 0)] (by kernel_rfl) rfl ?_
 refine GL.round rfl ?_
 refine G.seqK fun K33 hK34 => ?_
 refine G.seqK fun K35 hK36 => ?_
 refine G.region ?_
 refine GL.run (j := 2) 2 [0, 5, 6, 11] [(0, pt m 0), (5, .int .i64 (-1)), (6, .int .i64 0), (11, .bool true)] (by kernel_rfl) rfl ?_
 refine GL.k rfl hK36 (fun _ _ h => h) ?_
 refine G.yes rfl ?_
 refine G.skipK hK34 (fun _ _ h => h) ?_
 refine G.seqK fun K37 hK38 => ?_
 refine G.block ?_
 refine G.seqK fun K39 hK40 => ?_
 refine G.region ?_
 refine GL.run (j := 5) 5 [0, 5, 6, 18] [(0, pt m 0), (5, .int .i64 (-1)), (6, .int .i64 0), (18, pt m 0)] (by kernel_rfl) rfl ?_
 refine GL.sem (j := 6) (H32.ld (o := 0) (ty := 36) (v := .slice q0 a0.l.length k0) 0 rfl (by kernel_rfl) rfl) [0, 5, 6, 19] [(0, pt m 0), (5, .int .i64 (-1)), (6, .int .i64 0), (19, .slice q0 a0.l.length k0)] (by kernel_rfl) (by kernel_rfl) rfl ?_
 refine GL.run (j := 8) 2 [0, 5, 6, 21] [(0, pt m 0), (5, .int .i64 (-1)), (6, .int .i64 0), (21, .bool (decide (0 < (a0.l.length : Int))))] (by kernel_rfl) rfl ?_
 refine GL.k rfl hK40 (fun _ _ h => h) ?_
 have hb41 : (decide (0 < (a0.l.length : Int))) = false := decide_eq_false (by omega)
 rw [hb41]
 refine G.no rfl ?_
 refine G.region ?_
 refine GL.run (j := 5) 5 [0, 5, 6, 27] [(0, pt m 0), (5, .int .i64 (-1)), (6, .int .i64 0), (27, pt m 3)] (by kernel_rfl) rfl ?_
 obtain ⟨w42, r43, H44⟩ := H32.st (P := Try.prog) (o := 3) (ty := 3) (v := .int .i64 0) 0 rfl (by kernel_rfl) (by simp) rfl
 have H44 : Hp w S [.blk m [.slice q0 a0.l.length k0, .slice q1 a1.l.length k1, .slice q2 a2.l.length k2, .int .i64 0, .int .i64 0, .int .i64 0, .bool cl] 39, .que q0 a0.l.length k0 9 (mq a0.l), .que q1 a1.l.length k1 9 (mq a1.l), .que q2 a2.l.length k2 9 (mq a2.l)] w42 := H44
 refine GL.semU (j := 6) r43 [0, 5, 6] [(0, pt m 0), (5, .int .i64 (-1)), (6, .int .i64 0)] (by kernel_rfl) rfl rfl rfl ?_
 refine GL.k rfl hK38 (fun _ _ h => h) ?_
 refine G.region ?_
 refine GL.run (j := 3) 3 [0, 5, 6] [(0, pt m 0), (5, .int .i64 (-1)), (6, .int .i64 (-1))] (by kernel_rfl) rfl ?_
 refine GL.round rfl ?_
 refine G.seqK fun K45 hK46 => ?_
 refine G.seqK fun K47 hK48 => ?_
 refine G.region ?_
 refine GL.run (j := 2) 2 [0, 5, 6, 11] [(0, pt m 0), (5, .int .i64 (-1)), (6, .int .i64 (-1)), (11, .bool false)] (by kernel_rfl) rfl ?_
 refine GL.k rfl hK48 (fun _ _ h => h) ?_
 refine G.no rfl ?_
 refine G.exitK hK6 (fun _ _ h => h) ?_
 refine G.seqK fun K49 hK50 => ?_
 refine G.seqK fun K51 hK52 => ?_
 refine G.region ?_
 refine GL.run (j := 2) 2 [0, 5, 29] [(0, pt m 0), (5, .int .i64 (-1)), (29, .bool true)] (by kernel_rfl) rfl ?_
 refine GL.k rfl hK52 (fun _ _ h => h) ?_
 refine G.yes rfl ?_
 refine G.seqK fun K53 hK54 => ?_
 refine G.region ?_
 refine GL.run (j := 3) 3 [2, 3, 4] [(2, .string ⟨#[]⟩), (3, .int .i64 0), (4, .bool false)] (by kernel_rfl) rfl ?_
 refine GL.k rfl hK54 (fun _ _ h => h) ?_
 refine G.ret ?_
 intro F_ hF_ hM_
 refine hRet _ _ (bodyPost_3 rfl (RV.tmp rfl) (RV.tmp rfl) (RV.tmp rfl) ?_ F_ hF_ hM_)
 have HZ : Hp w S [.blk m [.slice q0 a0.l.length k0, .slice q1 a1.l.length k1, .slice q2 a2.l.length k2, .int .i64 (a0.p : Int), .int .i64 (a1.p : Int), .int .i64 (a2.p : Int), .bool cl] 39, .que q0 a0.l.length k0 9 (mq a0.l), .que q1 a1.l.length k1 9 (mq a1.l), .que q2 a2.l.length k2 9 (mq a2.l)] w42 := by rw [show a0.p = 0 from hz0.1 (by omega), show a1.p = 0 from hz1.1 (by omega), show a2.p = 0 from hz2.1 (by omega)]; exact H44
 exact ⟨rfl, HZ⟩
end Go.Proofs.Ythcdelpdgkoioaa
set_option maxRecDepth 100000
namespace Go.Proofs.Ythcdelpdgkoioaa
open Go.RowKit
set_option maxHeartbeats 4000000 in
theorem CloseOff_calls (S : List Nat) (d room : Nat) (a0 a1 a2 : Lane) (Gg : List (Option Addr × Nat × Nat × TypeId × List Value)) (w : World) (h0 : Hp w S [.blk d [.chan (some a0.ch), .chan (some a1.ch), .chan (some a2.ch), .int .i64 (a0.p : Int), .int .i64 (a1.p : Int), .int .i64 (a2.p : Int), .bool true] 52, .obj a0.ch (chO room a0.l true a0.s a0.r), .obj a1.ch (chO room a1.l true a1.s a1.r), .obj a2.ch (chO room a2.l true a2.s a2.r), .bag Gg] w) : Calls Try.prog 10 #[pt d 0] w fun e w' => e = .returned (.tuple #[]) ∧ Hp w S [.blk d [.chan (some a0.ch), .chan (some a1.ch), .chan (some a2.ch), .int .i64 (a0.p : Int), .int .i64 (a1.p : Int), .int .i64 (a2.p : Int), .bool true] 52, .obj a0.ch (chO room a0.l true a0.s a0.r), .obj a1.ch (chO room a1.l true a1.s a1.r), .obj a2.ch (chO room a2.l true a2.s a2.r), .bag Gg] w' := by
 refine calls_G (args := [pt d 0]) Try.func10 rfl Try.ntmps10 rfl ?_
 intro Q0 hRet hNor hPan
 have H := h0
 have H : Hp w S [.blk d [.chan (some a0.ch), .chan (some a1.ch), .chan (some a2.ch), .int .i64 (a0.p : Int), .int .i64 (a1.p : Int), .int .i64 (a2.p : Int), .bool true] 52, .obj a0.ch (chO room a0.l true a0.s a0.r), .obj a1.ch (chO room a1.l true a1.s a1.r), .obj a2.ch (chO room a2.l true a2.s a2.r), .bag Gg] w := H
 refine G.seqK fun K1 hK2 => ?_
 refine G.seqK fun K3 hK4 => ?_
 refine G.region ?_
 refine GL.run (j := 6) 6 [0, 6, 9] [(0, pt d 0), (6, .bool false), (9, pt d 6)] (by kernel_rfl) rfl ?_
 refine GL.sem (j := 7) (H.ld (o := 6) (ty := 4) (v := .bool true) 0 rfl (by kernel_rfl) rfl) [0, 6, 10] [(0, pt d 0), (6, .bool false), (10, .bool true)] (by kernel_rfl) (by kernel_rfl) rfl ?_
 refine GL.run (j := 8) 1 [0, 11] [(0, pt d 0), (11, .bool true)] (by kernel_rfl) rfl ?_
 refine GL.k rfl hK4 (fun _ _ h => h) ?_
 refine G.yes rfl ?_
 refine G.ret ?_
 intro F_ hF_ hM_
 refine hRet _ _ (bodyPost_0 rfl  ?_ F_ hF_ hM_)
 exact ⟨rfl, H⟩
set_option maxHeartbeats 4000000 in
theorem CloseOn_calls (S : List Nat) (d room : Nat) (a0 a1 a2 : Lane) (Gg : List (Option Addr × Nat × Nat × TypeId × List Value)) (w : World) (h0 : Hp w S [.blk d [.chan (some a0.ch), .chan (some a1.ch), .chan (some a2.ch), .int .i64 (a0.p : Int), .int .i64 (a1.p : Int), .int .i64 (a2.p : Int), .bool false] 52, .obj a0.ch (chO room a0.l false a0.s a0.r), .obj a1.ch (chO room a1.l false a1.s a1.r), .obj a2.ch (chO room a2.l false a2.s a2.r), .bag Gg] w) : Calls Try.prog 10 #[pt d 0] w fun e w' => e = .returned (.tuple #[]) ∧ Hp w S [.blk d [.chan (some a0.ch), .chan (some a1.ch), .chan (some a2.ch), .int .i64 (a0.p : Int), .int .i64 (a1.p : Int), .int .i64 (a2.p : Int), .bool true] 52, .obj a0.ch (chO room a0.l true a0.s a0.r), .obj a1.ch (chO room a1.l true a1.s a1.r), .obj a2.ch (chO room a2.l true a2.s a2.r), .bag Gg] w' := by
 refine calls_G (args := [pt d 0]) Try.func10 rfl Try.ntmps10 rfl ?_
 intro Q0 hRet hNor hPan
 have H := h0
 have H : Hp w S [.blk d [.chan (some a0.ch), .chan (some a1.ch), .chan (some a2.ch), .int .i64 (a0.p : Int), .int .i64 (a1.p : Int), .int .i64 (a2.p : Int), .bool false] 52, .obj a0.ch (chO room a0.l false a0.s a0.r), .obj a1.ch (chO room a1.l false a1.s a1.r), .obj a2.ch (chO room a2.l false a2.s a2.r), .bag Gg] w := H
 refine G.seqK fun K1 hK2 => ?_
 refine G.seqK fun K3 hK4 => ?_
 refine G.region ?_
 refine GL.run (j := 6) 6 [0, 6, 9] [(0, pt d 0), (6, .bool false), (9, pt d 6)] (by kernel_rfl) rfl ?_
 refine GL.sem (j := 7) (H.ld (o := 6) (ty := 4) (v := .bool false) 0 rfl (by kernel_rfl) rfl) [0, 6, 10] [(0, pt d 0), (6, .bool false), (10, .bool false)] (by kernel_rfl) (by kernel_rfl) rfl ?_
 refine GL.run (j := 8) 1 [0, 11] [(0, pt d 0), (11, .bool false)] (by kernel_rfl) rfl ?_
 refine GL.k rfl hK4 (fun _ _ h => h) ?_
 refine G.no rfl ?_
 refine G.skipK hK2 (fun _ _ h => h) ?_
 refine G.seqK fun K5 hK6 => ?_
 refine G.region ?_
 refine GL.run (j := 3) 3 [0, 14] [(0, pt d 0), (14, pt d 6)] (by kernel_rfl) rfl ?_
 obtain ⟨w7, r8, H9⟩ := H.st (P := Try.prog) (o := 6) (ty := 4) (v := .bool true) 0 rfl (by kernel_rfl) (by simp) rfl
 have H9 : Hp w S [.blk d [.chan (some a0.ch), .chan (some a1.ch), .chan (some a2.ch), .int .i64 (a0.p : Int), .int .i64 (a1.p : Int), .int .i64 (a2.p : Int), .bool true] 52, .obj a0.ch (chO room a0.l false a0.s a0.r), .obj a1.ch (chO room a1.l false a1.s a1.r), .obj a2.ch (chO room a2.l false a2.s a2.r), .bag Gg] w7 := H9
 refine GL.semU (j := 4) r8 [0] [(0, pt d 0)] (by kernel_rfl) rfl rfl rfl ?_
 refine GL.k rfl hK6 (fun _ _ h => h) ?_
 refine G.seqK fun K10 hK11 => ?_
 refine G.region ?_
 refine GL.run (j := 3) 3 [17] [(17, pt d 0)] (by kernel_rfl) rfl ?_
 refine GL.sem (j := 4) (H9.ldA (o := 0) (ty := 50) (m := 3) (sub := [.chan (some a0.ch), .chan (some a1.ch), .chan (some a2.ch)]) 0 rfl (by kernel_rfl) rfl rfl) [18] [(18, .agg #[.chan (some a0.ch), .chan (some a1.ch), .chan (some a2.ch)])] (by kernel_rfl) (by kernel_rfl) rfl ?_
 refine GL.run (j := 5) 1 [18, 19] [(18, .agg #[.chan (some a0.ch), .chan (some a1.ch), .chan (some a2.ch)]), (19, .int .i64 0)] (by kernel_rfl) rfl ?_
 refine GL.k rfl hK11 (fun _ _ h => h) ?_
 refine G.block ?_
 refine G.unroll 3 ?_
 refine G.seqK fun K12 hK13 => ?_
 refine G.region ?_
 refine GL.run (j := 1) 1 [18, 19, 20] [(18, .agg #[.chan (some a0.ch), .chan (some a1.ch), .chan (some a2.ch)]), (19, .int .i64 0), (20, .bool true)] (by kernel_rfl) rfl ?_
 refine GL.k rfl hK13 (fun _ _ h => h) ?_
 refine G.seqK fun K14 hK15 => ?_
 refine G.yes rfl ?_
 refine G.skipK hK15 (fun _ _ h => h) ?_
 refine G.seqK fun K16 hK17 => ?_
 refine G.block ?_
 refine G.seqK fun K18 hK19 => ?_
 refine G.region ?_
 refine GL.run (j := 2) 2 [3, 18, 19] [(3, .chan (some a0.ch)), (18, .agg #[.chan (some a0.ch), .chan (some a1.ch), .chan (some a2.ch)]), (19, .int .i64 0)] (by kernel_rfl) rfl ?_
 refine GL.k rfl hK19 (fun _ _ h => h) ?_
 refine G.region ?_
 refine GL.run (j := 1) 1 [18, 19, 22] [(18, .agg #[.chan (some a0.ch), .chan (some a1.ch), .chan (some a2.ch)]), (19, .int .i64 0), (22, .chan (some a0.ch))] (by kernel_rfl) rfl ?_
 obtain ⟨w20, r21, H22⟩ := H9.closeChan (P := Try.prog) (l := a0.l) 1 rfl #[49] 0
 have H22 : Hp w S [.blk d [.chan (some a0.ch), .chan (some a1.ch), .chan (some a2.ch), .int .i64 (a0.p : Int), .int .i64 (a1.p : Int), .int .i64 (a2.p : Int), .bool true] 52, .obj a0.ch (chO room a0.l true a0.s a0.r), .obj a1.ch (chO room a1.l false a1.s a1.r), .obj a2.ch (chO room a2.l false a2.s a2.r), .bag Gg] w20 := H22
 refine GL.sem (j := 2) (r21) [18, 19] [(18, .agg #[.chan (some a0.ch), .chan (some a1.ch), .chan (some a2.ch)]), (19, .int .i64 0)] (by kernel_rfl) (by kernel_rfl) rfl ?_
 refine GL.k rfl hK17 (fun _ _ h => h) ?_
 refine G.region ?_
 refine GL.run (j := 2) 2 [18, 19] [(18, .agg #[.chan (some a0.ch), .chan (some a1.ch), .chan (some a2.ch)]), (19, .int .i64 1)] (by kernel_rfl) rfl ?_
 refine GL.round rfl ?_
 refine G.seqK fun K23 hK24 => ?_
 refine G.region ?_
 refine GL.run (j := 1) 1 [18, 19, 20] [(18, .agg #[.chan (some a0.ch), .chan (some a1.ch), .chan (some a2.ch)]), (19, .int .i64 1), (20, .bool true)] (by kernel_rfl) rfl ?_
 refine GL.k rfl hK24 (fun _ _ h => h) ?_
 refine G.seqK fun K25 hK26 => ?_
 refine G.yes rfl ?_
 refine G.skipK hK26 (fun _ _ h => h) ?_
 refine G.seqK fun K27 hK28 => ?_
 refine G.block ?_
 refine G.seqK fun K29 hK30 => ?_
 refine G.region ?_
 refine GL.run (j := 2) 2 [3, 18, 19] [(3, .chan (some a1.ch)), (18, .agg #[.chan (some a0.ch), .chan (some a1.ch), .chan (some a2.ch)]), (19, .int .i64 1)] (by kernel_rfl) rfl ?_
 refine GL.k rfl hK30 (fun _ _ h => h) ?_
 refine G.region ?_
 refine GL.run (j := 1) 1 [18, 19, 22] [(18, .agg #[.chan (some a0.ch), .chan (some a1.ch), .chan (some a2.ch)]), (19, .int .i64 1), (22, .chan (some a1.ch))] (by kernel_rfl) rfl ?_
 obtain ⟨w31, r32, H33⟩ := H22.closeChan (P := Try.prog) (l := a1.l) 2 rfl #[49] 0
 have H33 : Hp w S [.blk d [.chan (some a0.ch), .chan (some a1.ch), .chan (some a2.ch), .int .i64 (a0.p : Int), .int .i64 (a1.p : Int), .int .i64 (a2.p : Int), .bool true] 52, .obj a0.ch (chO room a0.l true a0.s a0.r), .obj a1.ch (chO room a1.l true a1.s a1.r), .obj a2.ch (chO room a2.l false a2.s a2.r), .bag Gg] w31 := H33
 refine GL.sem (j := 2) (r32) [18, 19] [(18, .agg #[.chan (some a0.ch), .chan (some a1.ch), .chan (some a2.ch)]), (19, .int .i64 1)] (by kernel_rfl) (by kernel_rfl) rfl ?_
 refine GL.k rfl hK28 (fun _ _ h => h) ?_
 refine G.region ?_
 refine GL.run (j := 2) 2 [18, 19] [(18, .agg #[.chan (some a0.ch), .chan (some a1.ch), .chan (some a2.ch)]), (19, .int .i64 2)] (by kernel_rfl) rfl ?_
 refine GL.round rfl ?_
 refine G.seqK fun K34 hK35 => ?_
 refine G.region ?_
 refine GL.run (j := 1) 1 [18, 19, 20] [(18, .agg #[.chan (some a0.ch), .chan (some a1.ch), .chan (some a2.ch)]), (19, .int .i64 2), (20, .bool true)] (by kernel_rfl) rfl ?_
 refine GL.k rfl hK35 (fun _ _ h => h) ?_
 refine G.seqK fun K36 hK37 => ?_
 refine G.yes rfl ?_
 refine G.skipK hK37 (fun _ _ h => h) ?_
 refine G.seqK fun K38 hK39 => ?_
 refine G.block ?_
 refine G.seqK fun K40 hK41 => ?_
 refine G.region ?_
 refine GL.run (j := 2) 2 [3, 18, 19] [(3, .chan (some a2.ch)), (18, .agg #[.chan (some a0.ch), .chan (some a1.ch), .chan (some a2.ch)]), (19, .int .i64 2)] (by kernel_rfl) rfl ?_
 refine GL.k rfl hK41 (fun _ _ h => h) ?_
 refine G.region ?_
 refine GL.run (j := 1) 1 [18, 19, 22] [(18, .agg #[.chan (some a0.ch), .chan (some a1.ch), .chan (some a2.ch)]), (19, .int .i64 2), (22, .chan (some a2.ch))] (by kernel_rfl) rfl ?_
 obtain ⟨w42, r43, H44⟩ := H33.closeChan (P := Try.prog) (l := a2.l) 3 rfl #[49] 0
 have H44 : Hp w S [.blk d [.chan (some a0.ch), .chan (some a1.ch), .chan (some a2.ch), .int .i64 (a0.p : Int), .int .i64 (a1.p : Int), .int .i64 (a2.p : Int), .bool true] 52, .obj a0.ch (chO room a0.l true a0.s a0.r), .obj a1.ch (chO room a1.l true a1.s a1.r), .obj a2.ch (chO room a2.l true a2.s a2.r), .bag Gg] w42 := H44
 refine GL.sem (j := 2) (r43) [18, 19] [(18, .agg #[.chan (some a0.ch), .chan (some a1.ch), .chan (some a2.ch)]), (19, .int .i64 2)] (by kernel_rfl) (by kernel_rfl) rfl ?_
 refine GL.k rfl hK39 (fun _ _ h => h) ?_
 refine G.region ?_
 refine GL.run (j := 2) 2 [18, 19] [(18, .agg #[.chan (some a0.ch), .chan (some a1.ch), .chan (some a2.ch)]), (19, .int .i64 3)] (by kernel_rfl) rfl ?_
 refine GL.round rfl ?_
 refine G.seqK fun K45 hK46 => ?_
 refine G.region ?_
 refine GL.run (j := 1) 1 [18, 19, 20] [(18, .agg #[.chan (some a0.ch), .chan (some a1.ch), .chan (some a2.ch)]), (19, .int .i64 3), (20, .bool false)] (by kernel_rfl) rfl ?_
 refine GL.k rfl hK46 (fun _ _ h => h) ?_
 refine G.seqK fun K47 hK48 => ?_
 refine G.no rfl ?_
 refine fun F_ hF_ hM_ => wp_exit ?_
 refine hNor _ _ (bodyPost_0 rfl  ?_ F_ hF_ hM_)
 exact ⟨rfl, H44⟩
end Go.Proofs.Ythcdelpdgkoioaa
set_option maxRecDepth 100000
namespace Go.Proofs.Ythcdelpdgkoioaa
open Go.RowKit
theorem LenBad_calls (d : Nat) (z : Int) (hz : ¬ (0 ≤ z ∧ z < 3)) (w : World) : Calls Try.prog 12 #[pt d 0, .int .i64 z] w fun e w' => e = .returned (.int .i64 0) ∧ Hp w [] [] w' := by
 refine calls_G (args := [pt d 0, .int .i64 z]) Try.func12 rfl Try.ntmps12 rfl ?_
 intro Q0 hRet hNor hPan
 have H := Hp.start w
 have H : Hp w [] [] w := H
 refine G.seqK fun K1 hK2 => ?_
 refine G.region ?_
 refine GL.run (j := 1) 1 [0, 1] [(0, pt d 0), (1, .int .i64 z)] (by kernel_rfl) rfl ?_
 refine GL.k rfl hK2 (fun _ _ h => h) ?_
 refine G.seqK fun K3 hK4 => ?_
 refine G.seqK fun K5 hK6 => ?_
 refine G.region ?_
 refine GL.run (j := 4) 4 [0, 1, 7, 8] [(0, pt d 0), (1, .int .i64 z), (7, .bool false), (8, .int .i64 z)] (by kernel_rfl) rfl ?_
 refine GL.call (j := 5) (lane_calls z w) (by kernel_rfl) rfl (fun e_ w7 hR => ?_)
 obtain ⟨rfl, H9⟩ := hR
 have H8 : Hp w [] [] w7 := H.callNil H9
 refine ⟨_, rfl, [0, 1, 7, 9], [(0, pt d 0), (1, .int .i64 z), (7, .bool false), (9, .bool (decide (0 ≤ z ∧ z < 3)))], by kernel_rfl, ?_⟩
 refine GL.run (j := 7) 2 [0, 1, 11] [(0, pt d 0), (1, .int .i64 z), (11, .bool (!(decide (0 ≤ z ∧ z < 3))))] (by kernel_rfl) rfl ?_
 refine GL.k rfl hK6 (fun _ _ h => h) ?_
 have hb10 : (!(decide (0 ≤ z ∧ z < 3))) = true := by rw [show (decide (0 ≤ z ∧ z < 3)) = false from decide_eq_false hz]; rfl
 rw [hb10]
 refine G.yes rfl ?_
 refine G.seqK fun K11 hK12 => ?_
 refine G.region ?_
 refine GL.run (j := 1) 1 [4] [(4, .int .i64 0)] (by kernel_rfl) rfl ?_
 refine GL.k rfl hK12 (fun _ _ h => h) ?_
 refine G.ret ?_
 intro F_ hF_ hM_
 refine hRet _ _ (bodyPost_1 rfl (RV.tmp rfl) ?_ F_ hF_ hM_)
 exact ⟨rfl, H8.sub (List.nil_sublist _)⟩
theorem Len0_calls (S : List Nat) (d room : Nat) (cl : Bool) (a0 a1 a2 : Lane) (Gg : List (Option Addr × Nat × Nat × TypeId × List Value)) (w : World) (h0 : Hp w S [.blk d [.chan (some a0.ch), .chan (some a1.ch), .chan (some a2.ch), .int .i64 (a0.p : Int), .int .i64 (a1.p : Int), .int .i64 (a2.p : Int), .bool cl] 52, .obj a0.ch (chO room a0.l cl a0.s a0.r), .obj a1.ch (chO room a1.l cl a1.s a1.r), .obj a2.ch (chO room a2.l cl a2.s a2.r), .bag Gg] w) : Calls Try.prog 12 #[pt d 0, .int .i64 0] w fun e w' => e = .returned (.int .i64 (a0.l.length : Int)) ∧ Hp w S [.blk d [.chan (some a0.ch), .chan (some a1.ch), .chan (some a2.ch), .int .i64 (a0.p : Int), .int .i64 (a1.p : Int), .int .i64 (a2.p : Int), .bool cl] 52, .obj a0.ch (chO room a0.l cl a0.s a0.r), .obj a1.ch (chO room a1.l cl a1.s a1.r), .obj a2.ch (chO room a2.l cl a2.s a2.r), .bag Gg] w' := by
 refine calls_G (args := [pt d 0, .int .i64 0]) Try.func12 rfl Try.ntmps12 rfl ?_
 intro Q0 hRet hNor hPan
 have H := h0
 have H : Hp w S [.blk d [.chan (some a0.ch), .chan (some a1.ch), .chan (some a2.ch), .int .i64 (a0.p : Int), .int .i64 (a1.p : Int), .int .i64 (a2.p : Int), .bool cl] 52, .obj a0.ch (chO room a0.l cl a0.s a0.r), .obj a1.ch (chO room a1.l cl a1.s a1.r), .obj a2.ch (chO room a2.l cl a2.s a2.r), .bag Gg] w := H
 refine G.seqK fun K1 hK2 => ?_
 refine G.region ?_
 refine GL.run (j := 1) 1 [0, 1] [(0, pt d 0), (1, .int .i64 0)] (by kernel_rfl) rfl ?_
 refine GL.k rfl hK2 (fun _ _ h => h) ?_
 refine G.seqK fun K3 hK4 => ?_
 refine G.seqK fun K5 hK6 => ?_
 refine G.region ?_
 refine GL.run (j := 4) 4 [0, 1, 7, 8] [(0, pt d 0), (1, .int .i64 0), (7, .bool false), (8, .int .i64 0)] (by kernel_rfl) rfl ?_
 refine GL.call (j := 5) ((by have h_ := lane_calls 0 w; exact h_)) (by kernel_rfl) rfl (fun e_ w7 hR => ?_)
 obtain ⟨rfl, H9⟩ := hR
 have H8 : Hp w S [.blk d [.chan (some a0.ch), .chan (some a1.ch), .chan (some a2.ch), .int .i64 (a0.p : Int), .int .i64 (a1.p : Int), .int .i64 (a2.p : Int), .bool cl] 52, .obj a0.ch (chO room a0.l cl a0.s a0.r), .obj a1.ch (chO room a1.l cl a1.s a1.r), .obj a2.ch (chO room a2.l cl a2.s a2.r), .bag Gg] w7 := H.callNil H9
 refine ⟨_, rfl, [0, 1, 7, 9], [(0, pt d 0), (1, .int .i64 0), (7, .bool false), (9, .bool true)], by kernel_rfl, ?_⟩
 refine GL.run (j := 7) 2 [0, 1, 11] [(0, pt d 0), (1, .int .i64 0), (11, .bool false)] (by kernel_rfl) rfl ?_
 refine GL.k rfl hK6 (fun _ _ h => h) ?_
 refine G.no rfl ?_
 refine G.skipK hK4 (fun _ _ h => h) ?_
 refine G.seqK fun K10 hK11 => ?_
 refine G.region ?_
 refine GL.run (j := 5) 5 [16] [(16, pt d 0)] (by kernel_rfl) rfl ?_
 refine GL.sem (j := 6) (H8.ld (o := 0) (ty := 49) (v := .chan (some a0.ch)) 0 rfl (by kernel_rfl) rfl) [17] [(17, .chan (some a0.ch))] (by kernel_rfl) (by kernel_rfl) rfl ?_
 refine GL.sem (j := 7) (H8.lenChan (P := Try.prog) (t := 49) (ty := 3) (l := a0.l) 1 rfl Try.underlying49) [18] [(18, .int .i64 (a0.l.length : Int))] (by kernel_rfl) (by kernel_rfl) rfl ?_
 refine GL.run (j := 8) 1 [4] [(4, .int .i64 (a0.l.length : Int))] (by kernel_rfl) rfl ?_
 refine GL.k rfl hK11 (fun _ _ h => h) ?_
 refine G.ret ?_
 intro F_ hF_ hM_
 refine hRet _ _ (bodyPost_1 rfl (RV.tmp rfl) ?_ F_ hF_ hM_)
 exact ⟨rfl, H8⟩
theorem Len1_calls (S : List Nat) (d room : Nat) (cl : Bool) (a0 a1 a2 : Lane) (Gg : List (Option Addr × Nat × Nat × TypeId × List Value)) (w : World) (h0 : Hp w S [.blk d [.chan (some a0.ch), .chan (some a1.ch), .chan (some a2.ch), .int .i64 (a0.p : Int), .int .i64 (a1.p : Int), .int .i64 (a2.p : Int), .bool cl] 52, .obj a0.ch (chO room a0.l cl a0.s a0.r), .obj a1.ch (chO room a1.l cl a1.s a1.r), .obj a2.ch (chO room a2.l cl a2.s a2.r), .bag Gg] w) : Calls Try.prog 12 #[pt d 0, .int .i64 1] w fun e w' => e = .returned (.int .i64 (a1.l.length : Int)) ∧ Hp w S [.blk d [.chan (some a0.ch), .chan (some a1.ch), .chan (some a2.ch), .int .i64 (a0.p : Int), .int .i64 (a1.p : Int), .int .i64 (a2.p : Int), .bool cl] 52, .obj a0.ch (chO room a0.l cl a0.s a0.r), .obj a1.ch (chO room a1.l cl a1.s a1.r), .obj a2.ch (chO room a2.l cl a2.s a2.r), .bag Gg] w' := by
 refine calls_G (args := [pt d 0, .int .i64 1]) Try.func12 rfl Try.ntmps12 rfl ?_
 intro Q0 hRet hNor hPan
 have H := h0
 have H : Hp w S [.blk d [.chan (some a0.ch), .chan (some a1.ch), .chan (some a2.ch), .int .i64 (a0.p : Int), .int .i64 (a1.p : Int), .int .i64 (a2.p : Int), .bool cl] 52, .obj a0.ch (chO room a0.l cl a0.s a0.r), .obj a1.ch (chO room a1.l cl a1.s a1.r), .obj a2.ch (chO room a2.l cl a2.s a2.r), .bag Gg] w := H
 refine G.seqK fun K1 hK2 => ?_
 refine G.region ?_
 refine GL.run (j := 1) 1 [0, 1] [(0, pt d 0), (1, .int .i64 1)] (by kernel_rfl) rfl ?_
 refine GL.k rfl hK2 (fun _ _ h => h) ?_
 refine G.seqK fun K3 hK4 => ?_
 refine G.seqK fun K5 hK6 => ?_
 refine G.region ?_
 refine GL.run (j := 4) 4 [0, 1, 7, 8] [(0, pt d 0), (1, .int .i64 1), (7, .bool false), (8, .int .i64 1)] (by kernel_rfl) rfl ?_
 refine GL.call (j := 5) ((by have h_ := lane_calls 1 w; exact h_)) (by kernel_rfl) rfl (fun e_ w7 hR => ?_)
 obtain ⟨rfl, H9⟩ := hR
 have H8 : Hp w S [.blk d [.chan (some a0.ch), .chan (some a1.ch), .chan (some a2.ch), .int .i64 (a0.p : Int), .int .i64 (a1.p : Int), .int .i64 (a2.p : Int), .bool cl] 52, .obj a0.ch (chO room a0.l cl a0.s a0.r), .obj a1.ch (chO room a1.l cl a1.s a1.r), .obj a2.ch (chO room a2.l cl a2.s a2.r), .bag Gg] w7 := H.callNil H9
 refine ⟨_, rfl, [0, 1, 7, 9], [(0, pt d 0), (1, .int .i64 1), (7, .bool false), (9, .bool true)], by kernel_rfl, ?_⟩
 refine GL.run (j := 7) 2 [0, 1, 11] [(0, pt d 0), (1, .int .i64 1), (11, .bool false)] (by kernel_rfl) rfl ?_
 refine GL.k rfl hK6 (fun _ _ h => h) ?_
 refine G.no rfl ?_
 refine G.skipK hK4 (fun _ _ h => h) ?_
 refine G.seqK fun K10 hK11 => ?_
 refine G.region ?_
 refine GL.run (j := 5) 5 [16] [(16, pt d 1)] (by kernel_rfl) rfl ?_
 refine GL.sem (j := 6) (H8.ld (o := 1) (ty := 49) (v := .chan (some a1.ch)) 0 rfl (by kernel_rfl) rfl) [17] [(17, .chan (some a1.ch))] (by kernel_rfl) (by kernel_rfl) rfl ?_
 refine GL.sem (j := 7) (H8.lenChan (P := Try.prog) (t := 49) (ty := 3) (l := a1.l) 2 rfl Try.underlying49) [18] [(18, .int .i64 (a1.l.length : Int))] (by kernel_rfl) (by kernel_rfl) rfl ?_
 refine GL.run (j := 8) 1 [4] [(4, .int .i64 (a1.l.length : Int))] (by kernel_rfl) rfl ?_
 refine GL.k rfl hK11 (fun _ _ h => h) ?_
 refine G.ret ?_
 intro F_ hF_ hM_
 refine hRet _ _ (bodyPost_1 rfl (RV.tmp rfl) ?_ F_ hF_ hM_)
 exact ⟨rfl, H8⟩
theorem Len2_calls (S : List Nat) (d room : Nat) (cl : Bool) (a0 a1 a2 : Lane) (Gg : List (Option Addr × Nat × Nat × TypeId × List Value)) (w : World) (h0 : Hp w S [.blk d [.chan (some a0.ch), .chan (some a1.ch), .chan (some a2.ch), .int .i64 (a0.p : Int), .int .i64 (a1.p : Int), .int .i64 (a2.p : Int), .bool cl] 52, .obj a0.ch (chO room a0.l cl a0.s a0.r), .obj a1.ch (chO room a1.l cl a1.s a1.r), .obj a2.ch (chO room a2.l cl a2.s a2.r), .bag Gg] w) : Calls Try.prog 12 #[pt d 0, .int .i64 2] w fun e w' => e = .returned (.int .i64 (a2.l.length : Int)) ∧ Hp w S [.blk d [.chan (some a0.ch), .chan (some a1.ch), .chan (some a2.ch), .int .i64 (a0.p : Int), .int .i64 (a1.p : Int), .int .i64 (a2.p : Int), .bool cl] 52, .obj a0.ch (chO room a0.l cl a0.s a0.r), .obj a1.ch (chO room a1.l cl a1.s a1.r), .obj a2.ch (chO room a2.l cl a2.s a2.r), .bag Gg] w' := by
 refine calls_G (args := [pt d 0, .int .i64 2]) Try.func12 rfl Try.ntmps12 rfl ?_
 intro Q0 hRet hNor hPan
 have H := h0
 have H : Hp w S [.blk d [.chan (some a0.ch), .chan (some a1.ch), .chan (some a2.ch), .int .i64 (a0.p : Int), .int .i64 (a1.p : Int), .int .i64 (a2.p : Int), .bool cl] 52, .obj a0.ch (chO room a0.l cl a0.s a0.r), .obj a1.ch (chO room a1.l cl a1.s a1.r), .obj a2.ch (chO room a2.l cl a2.s a2.r), .bag Gg] w := H
 refine G.seqK fun K1 hK2 => ?_
 refine G.region ?_
 refine GL.run (j := 1) 1 [0, 1] [(0, pt d 0), (1, .int .i64 2)] (by kernel_rfl) rfl ?_
 refine GL.k rfl hK2 (fun _ _ h => h) ?_
 refine G.seqK fun K3 hK4 => ?_
 refine G.seqK fun K5 hK6 => ?_
 refine G.region ?_
 refine GL.run (j := 4) 4 [0, 1, 7, 8] [(0, pt d 0), (1, .int .i64 2), (7, .bool false), (8, .int .i64 2)] (by kernel_rfl) rfl ?_
 refine GL.call (j := 5) ((by have h_ := lane_calls 2 w; exact h_)) (by kernel_rfl) rfl (fun e_ w7 hR => ?_)
 obtain ⟨rfl, H9⟩ := hR
 have H8 : Hp w S [.blk d [.chan (some a0.ch), .chan (some a1.ch), .chan (some a2.ch), .int .i64 (a0.p : Int), .int .i64 (a1.p : Int), .int .i64 (a2.p : Int), .bool cl] 52, .obj a0.ch (chO room a0.l cl a0.s a0.r), .obj a1.ch (chO room a1.l cl a1.s a1.r), .obj a2.ch (chO room a2.l cl a2.s a2.r), .bag Gg] w7 := H.callNil H9
 refine ⟨_, rfl, [0, 1, 7, 9], [(0, pt d 0), (1, .int .i64 2), (7, .bool false), (9, .bool true)], by kernel_rfl, ?_⟩
 refine GL.run (j := 7) 2 [0, 1, 11] [(0, pt d 0), (1, .int .i64 2), (11, .bool false)] (by kernel_rfl) rfl ?_
 refine GL.k rfl hK6 (fun _ _ h => h) ?_
 refine G.no rfl ?_
 refine G.skipK hK4 (fun _ _ h => h) ?_
 refine G.seqK fun K10 hK11 => ?_
 refine G.region ?_
 refine GL.run (j := 5) 5 [16] [(16, pt d 2)] (by kernel_rfl) rfl ?_
 refine GL.sem (j := 6) (H8.ld (o := 2) (ty := 49) (v := .chan (some a2.ch)) 0 rfl (by kernel_rfl) rfl) [17] [(17, .chan (some a2.ch))] (by kernel_rfl) (by kernel_rfl) rfl ?_
 refine GL.sem (j := 7) (H8.lenChan (P := Try.prog) (t := 49) (ty := 3) (l := a2.l) 3 rfl Try.underlying49) [18] [(18, .int .i64 (a2.l.length : Int))] (by kernel_rfl) (by kernel_rfl) rfl ?_
 refine GL.run (j := 8) 1 [4] [(4, .int .i64 (a2.l.length : Int))] (by kernel_rfl) rfl ?_
 refine GL.k rfl hK11 (fun _ _ h => h) ?_
 refine G.ret ?_
 intro F_ hF_ hM_
 refine hRet _ _ (bodyPost_1 rfl (RV.tmp rfl) ?_ F_ hF_ hM_)
 exact ⟨rfl, H8⟩
end Go.Proofs.Ythcdelpdgkoioaa
set_option maxRecDepth 100000
namespace Go.Proofs.Ythcdelpdgkoioaa
open Go.RowKit
def PutR (n : Int) (cl : Bool) (rm : Nat) (xb : List UInt8) (G G' : List (Option Addr × Nat × Nat × TypeId × List Value)) (a0 a1 a2 b0 b1 b2 : Lane) (er : Int) : Prop :=
 (¬ (0 ≤ n ∧ n < 3) ∧ 1 = er ∧ G = G' ∧ a0 = b0 ∧ a1 = b1 ∧ a2 = b2) ∨
 (n = 0 ∧ cl = true ∧ 20 = er ∧ G = G' ∧ a0 = b0 ∧ a1 = b1 ∧ a2 = b2) ∨
 (n = 0 ∧ cl = false ∧ a0.l.length < rm ∧ 0 = er ∧ ∃ A c, G' = ((A, xb.length, c, (5 : TypeId), by8 xb) :: G) ∧ b0 = a0.put ⟨A, xb, c⟩ ∧ a1 = b1 ∧ a2 = b2) ∨
 (n = 0 ∧ cl = false ∧ rm ≤ a0.l.length ∧ 10 = er ∧ G = G' ∧ a0 = b0 ∧ a1 = b1 ∧ a2 = b2) ∨
 (n = 1 ∧ cl = true ∧ 20 = er ∧ G = G' ∧ a0 = b0 ∧ a1 = b1 ∧ a2 = b2) ∨
 (n = 1 ∧ cl = false ∧ a1.l.length < rm ∧ 0 = er ∧ ∃ A c, G' = ((A, xb.length, c, (5 : TypeId), by8 xb) :: G) ∧ a0 = b0 ∧ b1 = a1.put ⟨A, xb, c⟩ ∧ a2 = b2) ∨
 (n = 1 ∧ cl = false ∧ rm ≤ a1.l.length ∧ 10 = er ∧ G = G' ∧ a0 = b0 ∧ a1 = b1 ∧ a2 = b2) ∨
 (n = 2 ∧ cl = true ∧ 20 = er ∧ G = G' ∧ a0 = b0 ∧ a1 = b1 ∧ a2 = b2) ∨
 (n = 2 ∧ cl = false ∧ a2.l.length < rm ∧ 0 = er ∧ ∃ A c, G' = ((A, xb.length, c, (5 : TypeId), by8 xb) :: G) ∧ a0 = b0 ∧ a1 = b1 ∧ b2 = a2.put ⟨A, xb, c⟩) ∨
 (n = 2 ∧ cl = false ∧ rm ≤ a2.l.length ∧ 10 = er ∧ G = G' ∧ a0 = b0 ∧ a1 = b1 ∧ a2 = b2)
theorem PutAny_calls (S : List Nat) (d room : Nat) (cl : Bool) (a0 a1 a2 : Lane) (Gg : List (Option Addr × Nat × Nat × TypeId × List Value)) (n : Int) (B : Option Addr) (bs : List UInt8) (bc : Nat) (w : World) (h0 : Hp w S [.blk d [.chan (some a0.ch), .chan (some a1.ch), .chan (some a2.ch), .int .i64 (a0.p : Int), .int .i64 (a1.p : Int), .int .i64 (a2.p : Int), .bool cl] 52, .obj a0.ch (chO room a0.l cl a0.s a0.r), .obj a1.ch (chO room a1.l cl a1.s a1.r), .obj a2.ch (chO room a2.l cl a2.s a2.r), .bag Gg] w) (hx : RdO w S B (by8 bs)) (hl : bs.length ≤ 4096) : Calls Try.prog 8 #[pt d 0, .int .i64 n, .slice B bs.length bc] w fun e w' => ∃ er b0 b1 b2 G', PutR n cl room bs Gg G' a0 a1 a2 b0 b1 b2 er ∧ e = .returned (.int .i64 er) ∧ Hp w S [.blk d [.chan (some b0.ch), .chan (some b1.ch), .chan (some b2.ch), .int .i64 (b0.p : Int), .int .i64 (b1.p : Int), .int .i64 (b2.p : Int), .bool cl] 52, .obj b0.ch (chO room b0.l cl b0.s b0.r), .obj b1.ch (chO room b1.l cl b1.s b1.r), .obj b2.ch (chO room b2.l cl b2.s b2.r), .bag G'] w' := by
 rcases put_cases n cl room a0.l.length a1.l.length a2.l.length with hn | hn | hn | hn | hn | hn | hn | hn | hn | hn
 · refine (PutBad_calls d n B bs.length bc w hn).mono ?_
   rintro e w' ⟨rfl, H1⟩
   exact ⟨1, a0, a1, a2, Gg, (Or.inl ⟨hn, rfl, rfl, rfl, rfl, rfl⟩), rfl, h0.callNil H1⟩
 · obtain ⟨rfl, rfl⟩ := hn
   refine (PutShut0_calls S d room a0 a1 a2 Gg B bs bc w h0 hx).mono ?_
   rintro e w' ⟨rfl, H1⟩
   exact ⟨20, a0, a1, a2, Gg, (Or.inr (Or.inl ⟨rfl, rfl, rfl, rfl, rfl, rfl, rfl⟩)), rfl, H1⟩
 · obtain ⟨rfl, rfl, hr⟩ := hn
   refine (PutOk0_calls S d room a0 a1 a2 Gg B bs bc w h0 hx hr hl).mono ?_
   rintro e w' ⟨A', c', rfl, H1⟩
   exact ⟨0, a0.put ⟨A', bs, c'⟩, a1, a2, _, (Or.inr (Or.inr (Or.inl ⟨rfl, rfl, hr, rfl, A', c', rfl, rfl, rfl, rfl⟩))), rfl, H1⟩
 · obtain ⟨rfl, rfl, hr⟩ := hn
   refine (PutFull0_calls S d room a0 a1 a2 Gg B bs bc w h0 hx hr hl).mono ?_
   rintro e w' ⟨rfl, H1⟩
   exact ⟨10, a0, a1, a2, Gg, (Or.inr (Or.inr (Or.inr (Or.inl ⟨rfl, rfl, hr, rfl, rfl, rfl, rfl, rfl⟩)))), rfl, H1⟩
 · obtain ⟨rfl, rfl⟩ := hn
   refine (PutShut1_calls S d room a0 a1 a2 Gg B bs bc w h0 hx).mono ?_
   rintro e w' ⟨rfl, H1⟩
   exact ⟨20, a0, a1, a2, Gg, (Or.inr (Or.inr (Or.inr (Or.inr (Or.inl ⟨rfl, rfl, rfl, rfl, rfl, rfl, rfl⟩))))), rfl, H1⟩
 · obtain ⟨rfl, rfl, hr⟩ := hn
   refine (PutOk1_calls S d room a0 a1 a2 Gg B bs bc w h0 hx hr hl).mono ?_
   rintro e w' ⟨A', c', rfl, H1⟩
   exact ⟨0, a0, a1.put ⟨A', bs, c'⟩, a2, _, (Or.inr (Or.inr (Or.inr (Or.inr (Or.inr (Or.inl ⟨rfl, rfl, hr, rfl, A', c', rfl, rfl, rfl, rfl⟩)))))), rfl, H1⟩
 · obtain ⟨rfl, rfl, hr⟩ := hn
   refine (PutFull1_calls S d room a0 a1 a2 Gg B bs bc w h0 hx hr hl).mono ?_
   rintro e w' ⟨rfl, H1⟩
   exact ⟨10, a0, a1, a2, Gg, (Or.inr (Or.inr (Or.inr (Or.inr (Or.inr (Or.inr (Or.inl ⟨rfl, rfl, hr, rfl, rfl, rfl, rfl, rfl⟩))))))), rfl, H1⟩
 · obtain ⟨rfl, rfl⟩ := hn
   refine (PutShut2_calls S d room a0 a1 a2 Gg B bs bc w h0 hx).mono ?_
   rintro e w' ⟨rfl, H1⟩
   exact ⟨20, a0, a1, a2, Gg, (Or.inr (Or.inr (Or.inr (Or.inr (Or.inr (Or.inr (Or.inr (Or.inl ⟨rfl, rfl, rfl, rfl, rfl, rfl, rfl⟩)))))))), rfl, H1⟩
 · obtain ⟨rfl, rfl, hr⟩ := hn
   refine (PutOk2_calls S d room a0 a1 a2 Gg B bs bc w h0 hx hr hl).mono ?_
   rintro e w' ⟨A', c', rfl, H1⟩
   exact ⟨0, a0, a1, a2.put ⟨A', bs, c'⟩, _, (Or.inr (Or.inr (Or.inr (Or.inr (Or.inr (Or.inr (Or.inr (Or.inr (Or.inl ⟨rfl, rfl, hr, rfl, A', c', rfl, rfl, rfl, rfl⟩))))))))), rfl, H1⟩
 · obtain ⟨rfl, rfl, hr⟩ := hn
   refine (PutFull2_calls S d room a0 a1 a2 Gg B bs bc w h0 hx hr hl).mono ?_
   rintro e w' ⟨rfl, H1⟩
   exact ⟨10, a0, a1, a2, Gg, (Or.inr (Or.inr (Or.inr (Or.inr (Or.inr (Or.inr (Or.inr (Or.inr (Or.inr ⟨rfl, rfl, hr, rfl, rfl, rfl, rfl, rfl⟩))))))))), rfl, H1⟩
end Go.Proofs.Ythcdelpdgkoioaa
