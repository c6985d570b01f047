/- Part 3 of what deskPlays_proved stands on. -/
import Derived.Test.YthcdelpdgkoioaaZp2
set_option linter.unusedVariables false
set_option maxRecDepth 100000
namespace Go.Proofs.Ythcdelpdgkoioaa
open Go.RowKit
set_option maxHeartbeats 4000000 in
theorem MTake0_calls (S : List Nat) (m : Nat) (q0 q1 q2 : Option Addr) (k0 k1 k2 : Nat) (cl : Bool) (a0 a1 a2 : Lane) (m_ : Msg) (t_ : List Msg) (w : World) (h0 : Hp w S [.blk m [.slice q0 a0.l.length k0, .slice q1 a1.l.length k1, .slice q2 a2.l.length k2, .int .i64 (a0.p : Int), .int .i64 (a1.p : Int), .int .i64 (a2.p : Int), .bool cl] 39, .que q0 a0.l.length k0 9 (mq a0.l), .que q1 a1.l.length k1 9 (mq a1.l), .que q2 a2.l.length k2 9 (mq a2.l)] w) (hz0 : a0.z) (hz1 : a1.z) (hz2 : a2.z) (htk : tkN a0 a1 a2 = 0) (hlk : a0.l = m_ :: t_) : Calls Try.prog 11 #[pt m 0] w fun e w' => ∃ A' c', e = .returned (.tuple #[.string (strOf m_.b), .int .i64 0, .bool true]) ∧ Hp w S [.blk m [.slice A' ((a0.took t_).l.length) c', .slice q1 a1.pass.l.length k1, .slice q2 a2.pass.l.length k2, .int .i64 (((a0.took t_).p : Nat) : Int), .int .i64 (a1.pass.p : Int), .int .i64 (a2.pass.p : Int), .bool cl] 39, .que A' ((a0.took t_).l.length) c' 9 (mq (a0.took t_).l), .que q1 a1.pass.l.length k1 9 (mq a1.pass.l), .que q2 a2.pass.l.length k2 9 (mq a2.pass.l)] w' := by
 have hmq : mq a0.l = .string (strOf m_.b) :: mq t_ := by rw [hlk]; rfl
 have hne : a0.l.length ≠ 0 := by rw [hlk]; exact Nat.succ_ne_zero _
 have hzp0 := hz0.2
 have hq0 := (h0.queLe 1 rfl).1
 have hzp1 := hz1.2
 have hq1 := (h0.queLe 2 rfl).1
 have hzp2 := hz2.2
 have hq2 := (h0.queLe 3 rfl).1
 refine calls_G (args := [pt m 0]) Try.func11 rfl Try.ntmps11 rfl ?_
 intro Q0 hRet hNor hPan
 have H := h0
 have H : Hp w S [.blk m [.slice q0 a0.l.length k0, .slice q1 a1.l.length k1, .slice q2 a2.l.length k2, .int .i64 (a0.p : Int), .int .i64 (a1.p : Int), .int .i64 (a2.p : Int), .bool cl] 39, .que q0 a0.l.length k0 9 (mq a0.l), .que q1 a1.l.length k1 9 (mq a1.l), .que q2 a2.l.length k2 9 (mq a2.l)] w := H
 refine G.seqK fun K1 hK2 => ?_
 refine G.region ?_
 refine GL.run (j := 3) 3 [0] [(0, pt m 0)] (by kernel_rfl) rfl ?_
 refine GL.k rfl hK2 (fun _ _ h => h) ?_
 refine G.seqK fun K3 hK4 => ?_
 refine G.region ?_
 refine GL.run (j := 1) 1 [0, 5] [(0, pt m 0), (5, .int .i64 (-1))] (by kernel_rfl) rfl ?_
 refine GL.k rfl hK4 (fun _ _ h => h) ?_
 refine G.seqK fun K5 hK6 => ?_
 refine G.seqK fun K7 hK8 => ?_
 refine G.region ?_
 refine GL.run (j := 1) 1 [0, 5, 6] [(0, pt m 0), (5, .int .i64 (-1)), (6, .int .i64 2)] (by kernel_rfl) rfl ?_
 refine GL.k rfl hK8 (fun _ _ h => h) ?_
 refine G.block ?_
 refine G.unroll 3 ?_
 refine G.seqK fun K9 hK10 => ?_
 refine G.seqK fun K11 hK12 => ?_
 refine G.region ?_
 refine GL.run (j := 2) 2 [0, 5, 6, 11] [(0, pt m 0), (5, .int .i64 (-1)), (6, .int .i64 2), (11, .bool true)] (by kernel_rfl) rfl ?_
 refine GL.k rfl hK12 (fun _ _ h => h) ?_
 refine G.yes rfl ?_
 refine G.skipK hK10 (fun _ _ h => h) ?_
 refine G.seqK fun K13 hK14 => ?_
 refine G.block ?_
 refine G.seqK fun K15 hK16 => ?_
 refine G.region ?_
 refine GL.run (j := 5) 5 [0, 5, 6, 18] [(0, pt m 0), (5, .int .i64 (-1)), (6, .int .i64 2), (18, pt m 2)] (by kernel_rfl) rfl ?_
 refine GL.sem (j := 6) (H.ld (o := 2) (ty := 36) (v := .slice q2 a2.l.length k2) 0 rfl (by kernel_rfl) rfl) [0, 5, 6, 19] [(0, pt m 0), (5, .int .i64 (-1)), (6, .int .i64 2), (19, .slice q2 a2.l.length k2)] (by kernel_rfl) (by kernel_rfl) rfl ?_
 refine GL.run (j := 8) 2 [0, 5, 6, 21] [(0, pt m 0), (5, .int .i64 (-1)), (6, .int .i64 2), (21, .bool (decide (0 < (a2.l.length : Int))))] (by kernel_rfl) rfl ?_
 refine GL.k rfl hK16 (fun _ _ h => h) ?_
 cases hb17 : (decide (0 < (a2.l.length : Int)))
 · skip
   have hb17f := of_decide_eq_false hb17
   refine G.no rfl ?_
   refine G.region ?_
   refine GL.run (j := 5) 5 [0, 5, 6, 27] [(0, pt m 0), (5, .int .i64 (-1)), (6, .int .i64 2), (27, pt m 5)] (by kernel_rfl) rfl ?_
   obtain ⟨w18, r19, H20⟩ := H.st (P := Try.prog) (o := 5) (ty := 3) (v := .int .i64 0) 0 rfl (by kernel_rfl) (by simp) rfl
   have H20 : Hp w S [.blk m [.slice q0 a0.l.length k0, .slice q1 a1.l.length k1, .slice q2 a2.l.length k2, .int .i64 (a0.p : Int), .int .i64 (a1.p : Int), .int .i64 0, .bool cl] 39, .que q0 a0.l.length k0 9 (mq a0.l), .que q1 a1.l.length k1 9 (mq a1.l), .que q2 a2.l.length k2 9 (mq a2.l)] w18 := H20
   refine GL.semU (j := 6) r19 [0, 5, 6] [(0, pt m 0), (5, .int .i64 (-1)), (6, .int .i64 2)] (by kernel_rfl) rfl rfl rfl ?_
   refine GL.k rfl hK14 (fun _ _ h => h) ?_
   refine G.region ?_
   refine GL.run (j := 3) 3 [0, 5, 6] [(0, pt m 0), (5, .int .i64 (-1)), (6, .int .i64 1)] (by kernel_rfl) rfl ?_
   refine GL.round rfl ?_
   refine G.seqK fun K21 hK22 => ?_
   refine G.seqK fun K23 hK24 => ?_
   refine G.region ?_
   refine GL.run (j := 2) 2 [0, 5, 6, 11] [(0, pt m 0), (5, .int .i64 (-1)), (6, .int .i64 1), (11, .bool true)] (by kernel_rfl) rfl ?_
   refine GL.k rfl hK24 (fun _ _ h => h) ?_
   refine G.yes rfl ?_
   refine G.skipK hK22 (fun _ _ h => h) ?_
   refine G.seqK fun K25 hK26 => ?_
   refine G.block ?_
   refine G.seqK fun K27 hK28 => ?_
   refine G.region ?_
   refine GL.run (j := 5) 5 [0, 5, 6, 18] [(0, pt m 0), (5, .int .i64 (-1)), (6, .int .i64 1), (18, pt m 1)] (by kernel_rfl) rfl ?_
   refine GL.sem (j := 6) (H20.ld (o := 1) (ty := 36) (v := .slice q1 a1.l.length k1) 0 rfl (by kernel_rfl) rfl) [0, 5, 6, 19] [(0, pt m 0), (5, .int .i64 (-1)), (6, .int .i64 1), (19, .slice q1 a1.l.length k1)] (by kernel_rfl) (by kernel_rfl) rfl ?_
   refine GL.run (j := 8) 2 [0, 5, 6, 21] [(0, pt m 0), (5, .int .i64 (-1)), (6, .int .i64 1), (21, .bool (decide (0 < (a1.l.length : Int))))] (by kernel_rfl) rfl ?_
   refine GL.k rfl hK28 (fun _ _ h => h) ?_
   cases hb29 : (decide (0 < (a1.l.length : Int)))
   · skip
     have hb29f := of_decide_eq_false hb29
     refine G.no rfl ?_
     refine G.region ?_
     refine GL.run (j := 5) 5 [0, 5, 6, 27] [(0, pt m 0), (5, .int .i64 (-1)), (6, .int .i64 1), (27, pt m 4)] (by kernel_rfl) rfl ?_
     obtain ⟨w30, r31, H32⟩ := H20.st (P := Try.prog) (o := 4) (ty := 3) (v := .int .i64 0) 0 rfl (by kernel_rfl) (by simp) rfl
     have H32 : Hp w S [.blk m [.slice q0 a0.l.length k0, .slice q1 a1.l.length k1, .slice q2 a2.l.length k2, .int .i64 (a0.p : Int), .int .i64 0, .int .i64 0, .bool cl] 39, .que q0 a0.l.length k0 9 (mq a0.l), .que q1 a1.l.length k1 9 (mq a1.l), .que q2 a2.l.length k2 9 (mq a2.l)] w30 := H32
     refine GL.semU (j := 6) r31 [0, 5, 6] [(0, pt m 0), (5, .int .i64 (-1)), (6, .int .i64 1)] (by kernel_rfl) rfl rfl rfl ?_
     refine GL.k rfl hK26 (fun _ _ h => h) ?_
     refine G.region ?_
     refine GL.run (j := 3) 3 [0, 5, 6] [(0, pt m 0), (5, .int .i64 (-1)), (6, .int .i64 0)] (by kernel_rfl) rfl ?_
     refine GL.round rfl ?_
     refine G.seqK fun K33 hK34 => ?_
     refine G.seqK fun K35 hK36 => ?_
     refine G.region ?_
     refine GL.run (j := 2) 2 [0, 5, 6, 11] [(0, pt m 0), (5, .int .i64 (-1)), (6, .int .i64 0), (11, .bool true)] (by kernel_rfl) rfl ?_
     refine GL.k rfl hK36 (fun _ _ h => h) ?_
     refine G.yes rfl ?_
     refine G.skipK hK34 (fun _ _ h => h) ?_
     refine G.seqK fun K37 hK38 => ?_
     refine G.block ?_
     refine G.seqK fun K39 hK40 => ?_
     refine G.region ?_
     refine GL.run (j := 5) 5 [0, 5, 6, 18] [(0, pt m 0), (5, .int .i64 (-1)), (6, .int .i64 0), (18, pt m 0)] (by kernel_rfl) rfl ?_
     refine GL.sem (j := 6) (H32.ld (o := 0) (ty := 36) (v := .slice q0 a0.l.length k0) 0 rfl (by kernel_rfl) rfl) [0, 5, 6, 19] [(0, pt m 0), (5, .int .i64 (-1)), (6, .int .i64 0), (19, .slice q0 a0.l.length k0)] (by kernel_rfl) (by kernel_rfl) rfl ?_
     refine GL.run (j := 8) 2 [0, 5, 6, 21] [(0, pt m 0), (5, .int .i64 (-1)), (6, .int .i64 0), (21, .bool (decide (0 < (a0.l.length : Int))))] (by kernel_rfl) rfl ?_
     refine GL.k rfl hK40 (fun _ _ h => h) ?_
     have hb41 : (decide (0 < (a0.l.length : Int))) = true := decide_eq_true (by omega)
     rw [hb41]
     refine G.yes rfl ?_
     refine G.region ?_
     refine GL.run (j := 2) 2 [0, 5, 6] [(0, pt m 0), (5, .int .i64 0), (6, .int .i64 0)] (by kernel_rfl) rfl ?_
     refine GL.k rfl hK38 (fun _ _ h => h) ?_
     refine G.region ?_
     refine GL.run (j := 3) 3 [0, 5, 6] [(0, pt m 0), (5, .int .i64 0), (6, .int .i64 (-1))] (by kernel_rfl) rfl ?_
     refine GL.round rfl ?_
     refine G.seqK fun K42 hK43 => ?_
     refine G.seqK fun K44 hK45 => ?_
     refine G.region ?_
     refine GL.run (j := 2) 2 [0, 5, 6, 11] [(0, pt m 0), (5, .int .i64 0), (6, .int .i64 (-1)), (11, .bool false)] (by kernel_rfl) rfl ?_
     refine GL.k rfl hK45 (fun _ _ h => h) ?_
     refine G.no rfl ?_
     refine G.exitK hK6 (fun _ _ h => h) ?_
     refine G.seqK fun K46 hK47 => ?_
     refine G.seqK fun K48 hK49 => ?_
     refine G.region ?_
     refine GL.run (j := 2) 2 [0, 5, 29] [(0, pt m 0), (5, .int .i64 0), (29, .bool false)] (by kernel_rfl) rfl ?_
     refine GL.k rfl hK49 (fun _ _ h => h) ?_
     refine G.no rfl ?_
     refine G.skipK hK47 (fun _ _ h => h) ?_
     refine G.seqJ (X := Unit) (fun _ => [(0, pt m 0), (5, .int .i64 0)]) (fun _ w_ => (True) ∧ Hp w S [.blk m [.slice q0 a0.l.length k0, .slice q1 a1.l.length k1, .slice q2 a2.l.length k2, .int .i64 (a0.p : Int), .int .i64 (a1.p : Int), .int .i64 (a2.p : Int), .bool cl] 39, .que q0 a0.l.length k0 9 (mq a0.l), .que q1 a1.l.length k1 9 (mq a1.l), .que q2 a2.l.length k2 9 (mq a2.l)] w_) (fun J50 K51 hK52 => ?_) ?_
     · skip
       refine G.seqK fun K53 hK54 => ?_
       refine G.region ?_
       refine GL.run (j := 1) 1 [0, 5, 7] [(0, pt m 0), (5, .int .i64 0), (7, .int .i64 2)] (by kernel_rfl) rfl ?_
       refine GL.k rfl hK54 (fun _ _ h => h) ?_
       refine G.block ?_
       refine G.unroll 3 ?_
       refine G.seqK fun K55 hK56 => ?_
       refine G.seqK fun K57 hK58 => ?_
       refine G.region ?_
       refine GL.run (j := 2) 2 [0, 5, 7, 31] [(0, pt m 0), (5, .int .i64 0), (7, .int .i64 2), (31, .bool true)] (by kernel_rfl) rfl ?_
       refine GL.k rfl hK58 (fun _ _ h => h) ?_
       refine G.yes rfl ?_
       refine G.skipK hK56 (fun _ _ h => h) ?_
       refine G.seqK fun K59 hK60 => ?_
       refine G.block ?_
       refine G.seqK fun K61 hK62 => ?_
       refine G.region ?_
       refine GL.run (j := 5) 5 [0, 5, 7, 38] [(0, pt m 0), (5, .int .i64 0), (7, .int .i64 2), (38, pt m 5)] (by kernel_rfl) rfl ?_
       refine GL.sem (j := 6) (H32.ld (o := 5) (ty := 3) (v := .int .i64 0) 0 rfl (by kernel_rfl) rfl) [0, 5, 7, 39] [(0, pt m 0), (5, .int .i64 0), (7, .int .i64 2), (39, .int .i64 0)] (by kernel_rfl) (by kernel_rfl) rfl ?_
       refine GL.run (j := 7) 1 [0, 5, 7, 40] [(0, pt m 0), (5, .int .i64 0), (7, .int .i64 2), (40, .bool false)] (by kernel_rfl) rfl ?_
       refine GL.k rfl hK62 (fun _ _ h => h) ?_
       refine G.no rfl ?_
       refine G.skipK hK60 (fun _ _ h => h) ?_
       refine G.region ?_
       refine GL.run (j := 3) 3 [0, 5, 7] [(0, pt m 0), (5, .int .i64 0), (7, .int .i64 1)] (by kernel_rfl) rfl ?_
       refine GL.round rfl ?_
       refine G.seqK fun K63 hK64 => ?_
       refine G.seqK fun K65 hK66 => ?_
       refine G.region ?_
       refine GL.run (j := 2) 2 [0, 5, 7, 31] [(0, pt m 0), (5, .int .i64 0), (7, .int .i64 1), (31, .bool true)] (by kernel_rfl) rfl ?_
       refine GL.k rfl hK66 (fun _ _ h => h) ?_
       refine G.yes rfl ?_
       refine G.skipK hK64 (fun _ _ h => h) ?_
       refine G.seqK fun K67 hK68 => ?_
       refine G.block ?_
       refine G.seqK fun K69 hK70 => ?_
       refine G.region ?_
       refine GL.run (j := 5) 5 [0, 5, 7, 38] [(0, pt m 0), (5, .int .i64 0), (7, .int .i64 1), (38, pt m 4)] (by kernel_rfl) rfl ?_
       refine GL.sem (j := 6) (H32.ld (o := 4) (ty := 3) (v := .int .i64 0) 0 rfl (by kernel_rfl) rfl) [0, 5, 7, 39] [(0, pt m 0), (5, .int .i64 0), (7, .int .i64 1), (39, .int .i64 0)] (by kernel_rfl) (by kernel_rfl) rfl ?_
       refine GL.run (j := 7) 1 [0, 5, 7, 40] [(0, pt m 0), (5, .int .i64 0), (7, .int .i64 1), (40, .bool false)] (by kernel_rfl) rfl ?_
       refine GL.k rfl hK70 (fun _ _ h => h) ?_
       refine G.no rfl ?_
       refine G.skipK hK68 (fun _ _ h => h) ?_
       refine G.region ?_
       refine GL.run (j := 3) 3 [0, 5, 7] [(0, pt m 0), (5, .int .i64 0), (7, .int .i64 0)] (by kernel_rfl) rfl ?_
       refine GL.round rfl ?_
       refine G.seqK fun K71 hK72 => ?_
       refine G.seqK fun K73 hK74 => ?_
       refine G.region ?_
       refine GL.run (j := 2) 2 [0, 5, 7, 31] [(0, pt m 0), (5, .int .i64 0), (7, .int .i64 0), (31, .bool true)] (by kernel_rfl) rfl ?_
       refine GL.k rfl hK74 (fun _ _ h => h) ?_
       refine G.yes rfl ?_
       refine G.skipK hK72 (fun _ _ h => h) ?_
       refine G.seqK fun K75 hK76 => ?_
       refine G.block ?_
       refine G.seqK fun K77 hK78 => ?_
       refine G.region ?_
       refine GL.run (j := 5) 5 [0, 5, 7, 38] [(0, pt m 0), (5, .int .i64 0), (7, .int .i64 0), (38, pt m 3)] (by kernel_rfl) rfl ?_
       refine GL.sem (j := 6) (H32.ld (o := 3) (ty := 3) (v := .int .i64 (a0.p : Int)) 0 rfl (by kernel_rfl) rfl) [0, 5, 7, 39] [(0, pt m 0), (5, .int .i64 0), (7, .int .i64 0), (39, .int .i64 (a0.p : Int))] (by kernel_rfl) (by kernel_rfl) rfl ?_
       refine GL.run (j := 7) 1 [0, 5, 7, 40] [(0, pt m 0), (5, .int .i64 0), (7, .int .i64 0), (40, .bool (decide (4 ≤ (a0.p : Int))))] (by kernel_rfl) rfl ?_
       refine GL.k rfl hK78 (fun _ _ h => h) ?_
       cases hb79 : (decide (4 ≤ (a0.p : Int)))
       · skip
         have hb79f := of_decide_eq_false hb79
         refine G.no rfl ?_
         refine G.skipK hK76 (fun _ _ h => h) ?_
         refine G.region ?_
         refine GL.run (j := 3) 3 [0, 5, 7] [(0, pt m 0), (5, .int .i64 0), (7, .int .i64 (-1))] (by kernel_rfl) rfl ?_
         refine GL.round rfl ?_
         refine G.seqK fun K80 hK81 => ?_
         refine G.seqK fun K82 hK83 => ?_
         refine G.region ?_
         refine GL.run (j := 2) 2 [0, 5, 7, 31] [(0, pt m 0), (5, .int .i64 0), (7, .int .i64 (-1)), (31, .bool false)] (by kernel_rfl) rfl ?_
         refine GL.k rfl hK83 (fun _ _ h => h) ?_
         refine G.no rfl ?_
         refine G.exitK hK52 (fun _ _ h => h) ?_
         have e0 : tkN a0 a1 a2 = 0 := by
           unfold tkN
           repeat' split
           all_goals omega
         have HZ : Hp w S [.blk m [.slice q0 a0.l.length k0, .slice q1 a1.l.length k1, .slice q2 a2.l.length k2, .int .i64 (a0.p : Int), .int .i64 (a1.p : Int), .int .i64 (a2.p : Int), .bool cl] 39, .que q0 a0.l.length k0 9 (mq a0.l), .que q1 a1.l.length k1 9 (mq a1.l), .que q2 a2.l.length k2 9 (mq a2.l)] w30 := by rw [show a1.p = 0 from hz1.1 (by omega), show a2.p = 0 from hz2.1 (by omega)]; exact H32
         refine G.fit [0, 5] (M' := [(0, pt m 0), (5, .int .i64 0)]) (by kernel_rfl) ?_
         exact J50 () _ ⟨trivial, HZ⟩
       · skip
         have hb79f := of_decide_eq_true hb79
         refine G.yes rfl ?_
         refine G.region ?_
         refine GL.run (j := 2) 2 [0, 5, 7] [(0, pt m 0), (5, .int .i64 0), (7, .int .i64 0)] (by kernel_rfl) rfl ?_
         refine GL.k rfl hK76 (fun _ _ h => h) ?_
         refine G.region ?_
         refine GL.run (j := 3) 3 [0, 5, 7] [(0, pt m 0), (5, .int .i64 0), (7, .int .i64 (-1))] (by kernel_rfl) rfl ?_
         refine GL.round rfl ?_
         refine G.seqK fun K84 hK85 => ?_
         refine G.seqK fun K86 hK87 => ?_
         refine G.region ?_
         refine GL.run (j := 2) 2 [0, 5, 7, 31] [(0, pt m 0), (5, .int .i64 0), (7, .int .i64 (-1)), (31, .bool false)] (by kernel_rfl) rfl ?_
         refine GL.k rfl hK87 (fun _ _ h => h) ?_
         refine G.no rfl ?_
         refine G.exitK hK52 (fun _ _ h => h) ?_
         have e0 : tkN a0 a1 a2 = 0 := by
           unfold tkN
           repeat' split
           all_goals omega
         have HZ : Hp w S [.blk m [.slice q0 a0.l.length k0, .slice q1 a1.l.length k1, .slice q2 a2.l.length k2, .int .i64 (a0.p : Int), .int .i64 (a1.p : Int), .int .i64 (a2.p : Int), .bool cl] 39, .que q0 a0.l.length k0 9 (mq a0.l), .que q1 a1.l.length k1 9 (mq a1.l), .que q2 a2.l.length k2 9 (mq a2.l)] w30 := by rw [show a1.p = 0 from hz1.1 (by omega), show a2.p = 0 from hz2.1 (by omega)]; exact H32
         refine G.fit [0, 5] (M' := [(0, pt m 0), (5, .int .i64 0)]) (by kernel_rfl) ?_
         exact J50 () _ ⟨trivial, HZ⟩
     · skip
       rintro _ w88 ⟨hi89, H90⟩
       refine G.eq (M' := [(0, pt m 0), (5, .int .i64 0)]) rfl ?_
       have H90 : Hp w S [.blk m [.slice q0 a0.l.length k0, .slice q1 a1.l.length k1, .slice q2 a2.l.length k2, .int .i64 (a0.p : Int), .int .i64 (a1.p : Int), .int .i64 (a2.p : Int), .bool cl] 39, .que q0 a0.l.length k0 9 (mq a0.l), .que q1 a1.l.length k1 9 (mq a1.l), .que q2 a2.l.length k2 9 (mq a2.l)] w88 := H90
       refine G.seqK fun K91 hK92 => ?_
       refine G.seqK fun K93 hK94 => ?_
       refine G.region ?_
       refine GL.run (j := 1) 1 [0, 5, 42] [(0, pt m 0), (5, .int .i64 0), (42, .int .i64 0)] (by kernel_rfl) rfl ?_
       refine GL.k rfl hK94 (fun _ _ h => h) ?_
       refine G.block ?_
       refine G.unroll 3 ?_
       refine G.seqK fun K95 hK96 => ?_
       refine G.region ?_
       refine GL.run (j := 1) 1 [0, 5, 42, 43] [(0, pt m 0), (5, .int .i64 0), (42, .int .i64 0), (43, .bool true)] (by kernel_rfl) rfl ?_
       refine GL.k rfl hK96 (fun _ _ h => h) ?_
       refine G.seqK fun K97 hK98 => ?_
       refine G.yes rfl ?_
       refine G.skipK hK98 (fun _ _ h => h) ?_
       refine G.seqK fun K99 hK100 => ?_
       refine G.block ?_
       refine G.seqK fun K101 hK102 => ?_
       refine G.region ?_
       refine GL.run (j := 2) 2 [0, 5, 8, 42] [(0, pt m 0), (5, .int .i64 0), (8, .int .i64 0), (42, .int .i64 0)] (by kernel_rfl) rfl ?_
       refine GL.k rfl hK102 (fun _ _ h => h) ?_
       refine G.seqK fun K103 hK104 => ?_
       refine G.region ?_
       refine GL.run (j := 5) 5 [0, 5, 8, 42, 49] [(0, pt m 0), (5, .int .i64 0), (8, .int .i64 0), (42, .int .i64 0), (49, pt m 0)] (by kernel_rfl) rfl ?_
       refine GL.sem (j := 6) (H90.ld (o := 0) (ty := 36) (v := .slice q0 a0.l.length k0) 0 rfl (by kernel_rfl) rfl) [0, 5, 8, 42, 50] [(0, pt m 0), (5, .int .i64 0), (8, .int .i64 0), (42, .int .i64 0), (50, .slice q0 a0.l.length k0)] (by kernel_rfl) (by kernel_rfl) rfl ?_
       refine GL.run (j := 8) 2 [0, 5, 8, 42, 52] [(0, pt m 0), (5, .int .i64 0), (8, .int .i64 0), (42, .int .i64 0), (52, .bool (decide (0 < (a0.l.length : Int))))] (by kernel_rfl) rfl ?_
       refine GL.k rfl hK104 (fun _ _ h => h) ?_
       have hb105 : (decide (0 < (a0.l.length : Int))) = true := by assumption
       rw [hb105]
       refine G.yes rfl ?_
       refine G.tail 10 (by kernel_rfl) (by kernel_rfl) ?_
       have H106 := H90.drew
       generalize ({ w88 with drawn := w88.drawn + 1 } : World) = w107 at H106 ⊢
       refine GS.run (j := 5) 5 [0, 5, 42, 53, 54, 57] [(0, pt m 0), (5, .int .i64 0), (42, .int .i64 0), (53, pt m 0), (54, .int .i64 0), (57, pt m 3)] (by kernel_rfl) rfl rfl ?_
       refine GS.sem (j := 6) (H106.ld (o := 3) (ty := 3) (v := .int .i64 (a0.p : Int)) 0 rfl (by kernel_rfl) rfl) [0, 5, 42, 53, 54, 58] [(0, pt m 0), (5, .int .i64 0), (42, .int .i64 0), (53, pt m 0), (54, .int .i64 0), (58, .int .i64 (a0.p : Int))] (by kernel_rfl) (by kernel_rfl) rfl rfl ?_
       refine GS.run (j := 10) 4 [0, 5, 42, 59, 62] [(0, pt m 0), (5, .int .i64 0), (42, .int .i64 0), (59, .int .i64 (IntKind.i64.wrap ((a0.p : Int) + 1))), (62, pt m 3)] (by kernel_rfl) rfl rfl ?_
       have e108 : (IntKind.i64.wrap ((a0.p : Int) + 1)) = ((a0.p + 1 : Nat) : Int) := by rw [in_i64 (by omega)]; omega
       refine GS.eq (M' := [(0, pt m 0), (5, .int .i64 0), (42, .int .i64 0), (59, .int .i64 ((a0.p + 1 : Nat) : Int)), (62, pt m 3)]) (by rw [e108]) ?_
       clear e108
       refine GS.tail rfl ?_
       obtain ⟨w109, r110, H111⟩ := H106.st (P := Try.prog) (o := 3) (ty := 3) (v := .int .i64 ((a0.p + 1 : Nat) : Int)) 0 rfl (by kernel_rfl) (by simp) rfl
       have H111 : Hp w S [.blk m [.slice q0 a0.l.length k0, .slice q1 a1.l.length k1, .slice q2 a2.l.length k2, .int .i64 ((a0.p + 1 : Nat) : Int), .int .i64 (a1.p : Int), .int .i64 (a2.p : Int), .bool cl] 39, .que q0 a0.l.length k0 9 (mq a0.l), .que q1 a1.l.length k1 9 (mq a1.l), .que q2 a2.l.length k2 9 (mq a2.l)] w109 := H111
       refine GL.semU (j := 11) r110 [0, 5, 42] [(0, pt m 0), (5, .int .i64 0), (42, .int .i64 0)] (by kernel_rfl) rfl rfl rfl ?_
       refine GL.k rfl hK100 (fun _ _ h => h) ?_
       refine G.region ?_
       refine GL.run (j := 2) 2 [0, 5, 42] [(0, pt m 0), (5, .int .i64 0), (42, .int .i64 1)] (by kernel_rfl) rfl ?_
       refine GL.round rfl ?_
       refine G.seqK fun K112 hK113 => ?_
       refine G.region ?_
       refine GL.run (j := 1) 1 [0, 5, 42, 43] [(0, pt m 0), (5, .int .i64 0), (42, .int .i64 1), (43, .bool true)] (by kernel_rfl) rfl ?_
       refine GL.k rfl hK113 (fun _ _ h => h) ?_
       refine G.seqK fun K114 hK115 => ?_
       refine G.yes rfl ?_
       refine G.skipK hK115 (fun _ _ h => h) ?_
       refine G.seqK fun K116 hK117 => ?_
       refine G.block ?_
       refine G.seqK fun K118 hK119 => ?_
       refine G.region ?_
       refine GL.run (j := 2) 2 [0, 5, 8, 42] [(0, pt m 0), (5, .int .i64 0), (8, .int .i64 1), (42, .int .i64 1)] (by kernel_rfl) rfl ?_
       refine GL.k rfl hK119 (fun _ _ h => h) ?_
       refine G.seqK fun K120 hK121 => ?_
       refine G.region ?_
       refine GL.run (j := 5) 5 [0, 5, 8, 42, 49] [(0, pt m 0), (5, .int .i64 0), (8, .int .i64 1), (42, .int .i64 1), (49, pt m 1)] (by kernel_rfl) rfl ?_
       refine GL.sem (j := 6) (H111.ld (o := 1) (ty := 36) (v := .slice q1 a1.l.length k1) 0 rfl (by kernel_rfl) rfl) [0, 5, 8, 42, 50] [(0, pt m 0), (5, .int .i64 0), (8, .int .i64 1), (42, .int .i64 1), (50, .slice q1 a1.l.length k1)] (by kernel_rfl) (by kernel_rfl) rfl ?_
       refine GL.run (j := 8) 2 [0, 5, 8, 42, 52] [(0, pt m 0), (5, .int .i64 0), (8, .int .i64 1), (42, .int .i64 1), (52, .bool (decide (0 < (a1.l.length : Int))))] (by kernel_rfl) rfl ?_
       refine GL.k rfl hK121 (fun _ _ h => h) ?_
       have hb122 : (decide (0 < (a1.l.length : Int))) = false := by assumption
       rw [hb122]
       refine G.no rfl ?_
       refine G.skipK hK117 (fun _ _ h => h) ?_
       refine G.region ?_
       refine GL.run (j := 2) 2 [0, 5, 42] [(0, pt m 0), (5, .int .i64 0), (42, .int .i64 2)] (by kernel_rfl) rfl ?_
       refine GL.round rfl ?_
       refine G.seqK fun K123 hK124 => ?_
       refine G.region ?_
       refine GL.run (j := 1) 1 [0, 5, 42, 43] [(0, pt m 0), (5, .int .i64 0), (42, .int .i64 2), (43, .bool true)] (by kernel_rfl) rfl ?_
       refine GL.k rfl hK124 (fun _ _ h => h) ?_
       refine G.seqK fun K125 hK126 => ?_
       refine G.yes rfl ?_
       refine G.skipK hK126 (fun _ _ h => h) ?_
       refine G.seqK fun K127 hK128 => ?_
       refine G.block ?_
       refine G.seqK fun K129 hK130 => ?_
       refine G.region ?_
       refine GL.run (j := 2) 2 [0, 5, 8, 42] [(0, pt m 0), (5, .int .i64 0), (8, .int .i64 2), (42, .int .i64 2)] (by kernel_rfl) rfl ?_
       refine GL.k rfl hK130 (fun _ _ h => h) ?_
       refine G.seqK fun K131 hK132 => ?_
       refine G.region ?_
       refine GL.run (j := 5) 5 [0, 5, 8, 42, 49] [(0, pt m 0), (5, .int .i64 0), (8, .int .i64 2), (42, .int .i64 2), (49, pt m 2)] (by kernel_rfl) rfl ?_
       refine GL.sem (j := 6) (H111.ld (o := 2) (ty := 36) (v := .slice q2 a2.l.length k2) 0 rfl (by kernel_rfl) rfl) [0, 5, 8, 42, 50] [(0, pt m 0), (5, .int .i64 0), (8, .int .i64 2), (42, .int .i64 2), (50, .slice q2 a2.l.length k2)] (by kernel_rfl) (by kernel_rfl) rfl ?_
       refine GL.run (j := 8) 2 [0, 5, 8, 42, 52] [(0, pt m 0), (5, .int .i64 0), (8, .int .i64 2), (42, .int .i64 2), (52, .bool (decide (0 < (a2.l.length : Int))))] (by kernel_rfl) rfl ?_
       refine GL.k rfl hK132 (fun _ _ h => h) ?_
       have hb133 : (decide (0 < (a2.l.length : Int))) = false := by assumption
       rw [hb133]
       refine G.no rfl ?_
       refine G.skipK hK128 (fun _ _ h => h) ?_
       refine G.region ?_
       refine GL.run (j := 2) 2 [0, 5, 42] [(0, pt m 0), (5, .int .i64 0), (42, .int .i64 3)] (by kernel_rfl) rfl ?_
       refine GL.round rfl ?_
       refine G.seqK fun K134 hK135 => ?_
       refine G.region ?_
       refine GL.run (j := 1) 1 [0, 5, 42, 43] [(0, pt m 0), (5, .int .i64 0), (42, .int .i64 3), (43, .bool false)] (by kernel_rfl) rfl ?_
       refine GL.k rfl hK135 (fun _ _ h => h) ?_
       refine G.seqK fun K136 hK137 => ?_
       refine G.no rfl ?_
       refine G.exitK hK92 (fun _ _ h => h) ?_
       refine G.seqK fun K138 hK139 => ?_
       refine G.region ?_
       refine GL.run (j := 5) 5 [0, 5, 68] [(0, pt m 0), (5, .int .i64 0), (68, pt m 3)] (by kernel_rfl) rfl ?_
       obtain ⟨w140, r141, H142⟩ := H111.st (P := Try.prog) (o := 3) (ty := 3) (v := .int .i64 0) 0 rfl (by kernel_rfl) (by simp) rfl
       have H142 : Hp w S [.blk m [.slice q0 a0.l.length k0, .slice q1 a1.l.length k1, .slice q2 a2.l.length k2, .int .i64 0, .int .i64 (a1.p : Int), .int .i64 (a2.p : Int), .bool cl] 39, .que q0 a0.l.length k0 9 (mq a0.l), .que q1 a1.l.length k1 9 (mq a1.l), .que q2 a2.l.length k2 9 (mq a2.l)] w140 := H142
       refine GL.semU (j := 6) r141 [0, 5] [(0, pt m 0), (5, .int .i64 0)] (by kernel_rfl) rfl rfl rfl ?_
       refine GL.k rfl hK139 (fun _ _ h => h) ?_
       refine G.seqK fun K143 hK144 => ?_
       refine G.region ?_
       refine GL.run (j := 5) 5 [0, 5, 73] [(0, pt m 0), (5, .int .i64 0), (73, pt m 0)] (by kernel_rfl) rfl ?_
       refine GL.sem (j := 6) (H142.ld (o := 0) (ty := 36) (v := .slice q0 a0.l.length k0) 0 rfl (by kernel_rfl) rfl) [0, 5, 74] [(0, pt m 0), (5, .int .i64 0), (74, .slice q0 a0.l.length k0)] (by kernel_rfl) (by kernel_rfl) rfl ?_
       refine GL.sem (j := 7) (run_idxRd (P := Try.prog) (k := .i64) (t := 36) (A := q0) (len := a0.l.length) (cap := k0) (j := 0) (by kernel_rfl) rfl (H142.rdQue 1 rfl) (mq_length _) (by omega)) [0, 5, 75] [(0, pt m 0), (5, .int .i64 0), (75, .pointer (Option.map (fun x => Addr.add x 0) q0))] (by kernel_rfl) (by kernel_rfl) rfl ?_
       refine GL.sem (j := 8) (run_ldRd (P := Try.prog) (ty := 9) (A := q0) (j := 0) (v := .string (strOf m_.b)) (by kernel_rfl) (H142.rdQue 1 rfl) (by rw [hmq]; rfl)) [0, 5, 76] [(0, pt m 0), (5, .int .i64 0), (76, .string (strOf m_.b))] (by kernel_rfl) (by kernel_rfl) rfl ?_
       refine GL.run (j := 9) 1 [0, 5, 9] [(0, pt m 0), (5, .int .i64 0), (9, .string (strOf m_.b))] (by kernel_rfl) rfl ?_
       refine GL.k rfl hK144 (fun _ _ h => h) ?_
       refine G.seqK fun K145 hK146 => ?_
       refine G.tail 12 (by kernel_rfl) (by kernel_rfl) ?_
       have H147 := H142.drew
       generalize ({ w140 with drawn := w140.drawn + 1 } : World) = w148 at H147 ⊢
       refine GS.run (j := 7) 7 [5, 9, 77, 78, 83] [(5, .int .i64 0), (9, .string (strOf m_.b)), (77, pt m 0), (78, .int .i64 0), (83, pt m 0)] (by kernel_rfl) rfl rfl ?_
       refine GS.sem (j := 8) (H147.ld (o := 0) (ty := 36) (v := .slice q0 a0.l.length k0) 0 rfl (by kernel_rfl) rfl) [5, 9, 77, 78, 84] [(5, .int .i64 0), (9, .string (strOf m_.b)), (77, pt m 0), (78, .int .i64 0), (84, .slice q0 a0.l.length k0)] (by kernel_rfl) (by kernel_rfl) rfl rfl ?_
       refine GS.sem (j := 9) (run_tail1 (P := Try.prog) (t := 36) (n := a0.l.length) (c := k0) (A := q0) (by kernel_rfl) (by omega) (by omega)) [5, 9, 77, 78, 85] [(5, .int .i64 0), (9, .string (strOf m_.b)), (77, pt m 0), (78, .int .i64 0), (85, .slice (if k0 = 1 then q0 else q0.map fun a => Addr.add a 1) (a0.l.length - 1) (k0 - 1))] (by kernel_rfl) (by kernel_rfl) rfl rfl ?_
       refine GS.run (j := 12) 3 [5, 9, 85, 88] [(5, .int .i64 0), (9, .string (strOf m_.b)), (85, .slice (if k0 = 1 then q0 else q0.map fun a => Addr.add a 1) (a0.l.length - 1) (k0 - 1)), (88, pt m 0)] (by kernel_rfl) rfl rfl ?_
       refine GS.tail rfl ?_
       obtain ⟨w149, r150, H151⟩ := H147.st (P := Try.prog) (o := 0) (ty := 36) (v := .slice (if k0 = 1 then q0 else q0.map fun a => Addr.add a 1) (a0.l.length - 1) (k0 - 1)) 0 rfl (by kernel_rfl) (by simp) rfl
       have H151 : Hp w S [.blk m [.slice (if k0 = 1 then q0 else q0.map fun a => Addr.add a 1) (a0.l.length - 1) (k0 - 1), .slice q1 a1.l.length k1, .slice q2 a2.l.length k2, .int .i64 0, .int .i64 (a1.p : Int), .int .i64 (a2.p : Int), .bool cl] 39, .que q0 a0.l.length k0 9 (mq a0.l), .que q1 a1.l.length k1 9 (mq a1.l), .que q2 a2.l.length k2 9 (mq a2.l)] w149 := H151
       refine GL.semU (j := 13) r150 [5, 9] [(5, .int .i64 0), (9, .string (strOf m_.b))] (by kernel_rfl) rfl rfl rfl ?_
       refine GL.k rfl hK146 (fun _ _ h => h) ?_
       refine G.seqK fun K152 hK153 => ?_
       refine G.region ?_
       refine GL.run (j := 5) 5 [2, 3, 4] [(2, .string (strOf m_.b)), (3, .int .i64 0), (4, .bool true)] (by kernel_rfl) rfl ?_
       refine GL.k rfl hK153 (fun _ _ h => h) ?_
       refine G.ret ?_
       intro F_ hF_ hM_
       refine hRet _ _ (bodyPost_3 rfl (RV.tmp rfl) (RV.tmp rfl) (RV.tmp rfl) ?_ F_ hF_ hM_)
       have HT := H151.queTail 1 (x := .string (strOf m_.b)) (xs := mq t_) (by rw [← hmq]; rfl) (by rw [mq_length, hlk]; rfl)
       have HZ : Hp w S [.blk m [.slice (if k0 = 1 then q0 else q0.map fun a => Addr.add a 1) ((a0.took t_).l.length) (k0 - 1), .slice q1 a1.pass.l.length k1, .slice q2 a2.pass.l.length k2, .int .i64 (((a0.took t_).p : Nat) : Int), .int .i64 (a1.pass.p : Int), .int .i64 (a2.pass.p : Int), .bool cl] 39, .que (if k0 = 1 then q0 else q0.map fun a => Addr.add a 1) ((a0.took t_).l.length) (k0 - 1) 9 (mq (a0.took t_).l), .que q1 a1.pass.l.length k1 9 (mq a1.pass.l), .que q2 a2.pass.l.length k2 9 (mq a2.pass.l)] w149 := by rw [show (a0.took t_).l.length = a0.l.length - 1 by rw [hlk]; rfl, show a1.pass.p = a1.p by unfold Lane.pass; exact if_pos (by omega), show a2.pass.p = a2.p by unfold Lane.pass; exact if_pos (by omega)]; exact HT
       exact ⟨_, _, rfl, HZ⟩
   · skip
     have hb29f := of_decide_eq_true hb29
     refine G.yes rfl ?_
     refine G.region ?_
     refine GL.run (j := 2) 2 [0, 5, 6] [(0, pt m 0), (5, .int .i64 1), (6, .int .i64 1)] (by kernel_rfl) rfl ?_
     refine GL.k rfl hK26 (fun _ _ h => h) ?_
     refine G.region ?_
     refine GL.run (j := 3) 3 [0, 5, 6] [(0, pt m 0), (5, .int .i64 1), (6, .int .i64 0)] (by kernel_rfl) rfl ?_
     refine GL.round rfl ?_
     refine G.seqK fun K154 hK155 => ?_
     refine G.seqK fun K156 hK157 => ?_
     refine G.region ?_
     refine GL.run (j := 2) 2 [0, 5, 6, 11] [(0, pt m 0), (5, .int .i64 1), (6, .int .i64 0), (11, .bool true)] (by kernel_rfl) rfl ?_
     refine GL.k rfl hK157 (fun _ _ h => h) ?_
     refine G.yes rfl ?_
     refine G.skipK hK155 (fun _ _ h => h) ?_
     refine G.seqK fun K158 hK159 => ?_
     refine G.block ?_
     refine G.seqK fun K160 hK161 => ?_
     refine G.region ?_
     refine GL.run (j := 5) 5 [0, 5, 6, 18] [(0, pt m 0), (5, .int .i64 1), (6, .int .i64 0), (18, pt m 0)] (by kernel_rfl) rfl ?_
     refine GL.sem (j := 6) (H20.ld (o := 0) (ty := 36) (v := .slice q0 a0.l.length k0) 0 rfl (by kernel_rfl) rfl) [0, 5, 6, 19] [(0, pt m 0), (5, .int .i64 1), (6, .int .i64 0), (19, .slice q0 a0.l.length k0)] (by kernel_rfl) (by kernel_rfl) rfl ?_
     refine GL.run (j := 8) 2 [0, 5, 6, 21] [(0, pt m 0), (5, .int .i64 1), (6, .int .i64 0), (21, .bool (decide (0 < (a0.l.length : Int))))] (by kernel_rfl) rfl ?_
     refine GL.k rfl hK161 (fun _ _ h => h) ?_
     have hb162 : (decide (0 < (a0.l.length : Int))) = true := decide_eq_true (by omega)
     rw [hb162]
     refine G.yes rfl ?_
     refine G.region ?_
     refine GL.run (j := 2) 2 [0, 5, 6] [(0, pt m 0), (5, .int .i64 0), (6, .int .i64 0)] (by kernel_rfl) rfl ?_
     refine GL.k rfl hK159 (fun _ _ h => h) ?_
     refine G.region ?_
     refine GL.run (j := 3) 3 [0, 5, 6] [(0, pt m 0), (5, .int .i64 0), (6, .int .i64 (-1))] (by kernel_rfl) rfl ?_
     refine GL.round rfl ?_
     refine G.seqK fun K163 hK164 => ?_
     refine G.seqK fun K165 hK166 => ?_
     refine G.region ?_
     refine GL.run (j := 2) 2 [0, 5, 6, 11] [(0, pt m 0), (5, .int .i64 0), (6, .int .i64 (-1)), (11, .bool false)] (by kernel_rfl) rfl ?_
     refine GL.k rfl hK166 (fun _ _ h => h) ?_
     refine G.no rfl ?_
     refine G.exitK hK6 (fun _ _ h => h) ?_
     refine G.seqK fun K167 hK168 => ?_
     refine G.seqK fun K169 hK170 => ?_
     refine G.region ?_
     refine GL.run (j := 2) 2 [0, 5, 29] [(0, pt m 0), (5, .int .i64 0), (29, .bool false)] (by kernel_rfl) rfl ?_
     refine GL.k rfl hK170 (fun _ _ h => h) ?_
     refine G.no rfl ?_
     refine G.skipK hK168 (fun _ _ h => h) ?_
     refine G.seqJ (X := Unit) (fun _ => [(0, pt m 0), (5, .int .i64 0)]) (fun _ w_ => (True) ∧ Hp w S [.blk m [.slice q0 a0.l.length k0, .slice q1 a1.l.length k1, .slice q2 a2.l.length k2, .int .i64 (a0.p : Int), .int .i64 (a1.p : Int), .int .i64 (a2.p : Int), .bool cl] 39, .que q0 a0.l.length k0 9 (mq a0.l), .que q1 a1.l.length k1 9 (mq a1.l), .que q2 a2.l.length k2 9 (mq a2.l)] w_) (fun J171 K172 hK173 => ?_) ?_
     · skip
       refine G.seqK fun K174 hK175 => ?_
       refine G.region ?_
       refine GL.run (j := 1) 1 [0, 5, 7] [(0, pt m 0), (5, .int .i64 0), (7, .int .i64 2)] (by kernel_rfl) rfl ?_
       refine GL.k rfl hK175 (fun _ _ h => h) ?_
       refine G.block ?_
       refine G.unroll 3 ?_
       refine G.seqK fun K176 hK177 => ?_
       refine G.seqK fun K178 hK179 => ?_
       refine G.region ?_
       refine GL.run (j := 2) 2 [0, 5, 7, 31] [(0, pt m 0), (5, .int .i64 0), (7, .int .i64 2), (31, .bool true)] (by kernel_rfl) rfl ?_
       refine GL.k rfl hK179 (fun _ _ h => h) ?_
       refine G.yes rfl ?_
       refine G.skipK hK177 (fun _ _ h => h) ?_
       refine G.seqK fun K180 hK181 => ?_
       refine G.block ?_
       refine G.seqK fun K182 hK183 => ?_
       refine G.region ?_
       refine GL.run (j := 5) 5 [0, 5, 7, 38] [(0, pt m 0), (5, .int .i64 0), (7, .int .i64 2), (38, pt m 5)] (by kernel_rfl) rfl ?_
       refine GL.sem (j := 6) (H20.ld (o := 5) (ty := 3) (v := .int .i64 0) 0 rfl (by kernel_rfl) rfl) [0, 5, 7, 39] [(0, pt m 0), (5, .int .i64 0), (7, .int .i64 2), (39, .int .i64 0)] (by kernel_rfl) (by kernel_rfl) rfl ?_
       refine GL.run (j := 7) 1 [0, 5, 7, 40] [(0, pt m 0), (5, .int .i64 0), (7, .int .i64 2), (40, .bool false)] (by kernel_rfl) rfl ?_
       refine GL.k rfl hK183 (fun _ _ h => h) ?_
       refine G.no rfl ?_
       refine G.skipK hK181 (fun _ _ h => h) ?_
       refine G.region ?_
       refine GL.run (j := 3) 3 [0, 5, 7] [(0, pt m 0), (5, .int .i64 0), (7, .int .i64 1)] (by kernel_rfl) rfl ?_
       refine GL.round rfl ?_
       refine G.seqK fun K184 hK185 => ?_
       refine G.seqK fun K186 hK187 => ?_
       refine G.region ?_
       refine GL.run (j := 2) 2 [0, 5, 7, 31] [(0, pt m 0), (5, .int .i64 0), (7, .int .i64 1), (31, .bool true)] (by kernel_rfl) rfl ?_
       refine GL.k rfl hK187 (fun _ _ h => h) ?_
       refine G.yes rfl ?_
       refine G.skipK hK185 (fun _ _ h => h) ?_
       refine G.seqK fun K188 hK189 => ?_
       refine G.block ?_
       refine G.seqK fun K190 hK191 => ?_
       refine G.region ?_
       refine GL.run (j := 5) 5 [0, 5, 7, 38] [(0, pt m 0), (5, .int .i64 0), (7, .int .i64 1), (38, pt m 4)] (by kernel_rfl) rfl ?_
       refine GL.sem (j := 6) (H20.ld (o := 4) (ty := 3) (v := .int .i64 (a1.p : Int)) 0 rfl (by kernel_rfl) rfl) [0, 5, 7, 39] [(0, pt m 0), (5, .int .i64 0), (7, .int .i64 1), (39, .int .i64 (a1.p : Int))] (by kernel_rfl) (by kernel_rfl) rfl ?_
       refine GL.run (j := 7) 1 [0, 5, 7, 40] [(0, pt m 0), (5, .int .i64 0), (7, .int .i64 1), (40, .bool (decide (4 ≤ (a1.p : Int))))] (by kernel_rfl) rfl ?_
       refine GL.k rfl hK191 (fun _ _ h => h) ?_
       cases hb192 : (decide (4 ≤ (a1.p : Int)))
       · skip
         have hb192f := of_decide_eq_false hb192
         refine G.no rfl ?_
         refine G.skipK hK189 (fun _ _ h => h) ?_
         refine G.region ?_
         refine GL.run (j := 3) 3 [0, 5, 7] [(0, pt m 0), (5, .int .i64 0), (7, .int .i64 0)] (by kernel_rfl) rfl ?_
         refine GL.round rfl ?_
         refine G.seqK fun K193 hK194 => ?_
         refine G.seqK fun K195 hK196 => ?_
         refine G.region ?_
         refine GL.run (j := 2) 2 [0, 5, 7, 31] [(0, pt m 0), (5, .int .i64 0), (7, .int .i64 0), (31, .bool true)] (by kernel_rfl) rfl ?_
         refine GL.k rfl hK196 (fun _ _ h => h) ?_
         refine G.yes rfl ?_
         refine G.skipK hK194 (fun _ _ h => h) ?_
         refine G.seqK fun K197 hK198 => ?_
         refine G.block ?_
         refine G.seqK fun K199 hK200 => ?_
         refine G.region ?_
         refine GL.run (j := 5) 5 [0, 5, 7, 38] [(0, pt m 0), (5, .int .i64 0), (7, .int .i64 0), (38, pt m 3)] (by kernel_rfl) rfl ?_
         refine GL.sem (j := 6) (H20.ld (o := 3) (ty := 3) (v := .int .i64 (a0.p : Int)) 0 rfl (by kernel_rfl) rfl) [0, 5, 7, 39] [(0, pt m 0), (5, .int .i64 0), (7, .int .i64 0), (39, .int .i64 (a0.p : Int))] (by kernel_rfl) (by kernel_rfl) rfl ?_
         refine GL.run (j := 7) 1 [0, 5, 7, 40] [(0, pt m 0), (5, .int .i64 0), (7, .int .i64 0), (40, .bool (decide (4 ≤ (a0.p : Int))))] (by kernel_rfl) rfl ?_
         refine GL.k rfl hK200 (fun _ _ h => h) ?_
         cases hb201 : (decide (4 ≤ (a0.p : Int)))
         · skip
           have hb201f := of_decide_eq_false hb201
           refine G.no rfl ?_
           refine G.skipK hK198 (fun _ _ h => h) ?_
           refine G.region ?_
           refine GL.run (j := 3) 3 [0, 5, 7] [(0, pt m 0), (5, .int .i64 0), (7, .int .i64 (-1))] (by kernel_rfl) rfl ?_
           refine GL.round rfl ?_
           refine G.seqK fun K202 hK203 => ?_
           refine G.seqK fun K204 hK205 => ?_
           refine G.region ?_
           refine GL.run (j := 2) 2 [0, 5, 7, 31] [(0, pt m 0), (5, .int .i64 0), (7, .int .i64 (-1)), (31, .bool false)] (by kernel_rfl) rfl ?_
           refine GL.k rfl hK205 (fun _ _ h => h) ?_
           refine G.no rfl ?_
           refine G.exitK hK173 (fun _ _ h => h) ?_
           have e0 : tkN a0 a1 a2 = 0 := by
             unfold tkN
             repeat' split
             all_goals omega
           have HZ : Hp w S [.blk m [.slice q0 a0.l.length k0, .slice q1 a1.l.length k1, .slice q2 a2.l.length k2, .int .i64 (a0.p : Int), .int .i64 (a1.p : Int), .int .i64 (a2.p : Int), .bool cl] 39, .que q0 a0.l.length k0 9 (mq a0.l), .que q1 a1.l.length k1 9 (mq a1.l), .que q2 a2.l.length k2 9 (mq a2.l)] w18 := by rw [show a2.p = 0 from hz2.1 (by omega)]; exact H20
           refine G.fit [0, 5] (M' := [(0, pt m 0), (5, .int .i64 0)]) (by kernel_rfl) ?_
           exact J171 () _ ⟨trivial, HZ⟩
         · skip
           have hb201f := of_decide_eq_true hb201
           refine G.yes rfl ?_
           refine G.region ?_
           refine GL.run (j := 2) 2 [0, 5, 7] [(0, pt m 0), (5, .int .i64 0), (7, .int .i64 0)] (by kernel_rfl) rfl ?_
           refine GL.k rfl hK198 (fun _ _ h => h) ?_
           refine G.region ?_
           refine GL.run (j := 3) 3 [0, 5, 7] [(0, pt m 0), (5, .int .i64 0), (7, .int .i64 (-1))] (by kernel_rfl) rfl ?_
           refine GL.round rfl ?_
           refine G.seqK fun K206 hK207 => ?_
           refine G.seqK fun K208 hK209 => ?_
           refine G.region ?_
           refine GL.run (j := 2) 2 [0, 5, 7, 31] [(0, pt m 0), (5, .int .i64 0), (7, .int .i64 (-1)), (31, .bool false)] (by kernel_rfl) rfl ?_
           refine GL.k rfl hK209 (fun _ _ h => h) ?_
           refine G.no rfl ?_
           refine G.exitK hK173 (fun _ _ h => h) ?_
           have e0 : tkN a0 a1 a2 = 0 := by
             unfold tkN
             repeat' split
             all_goals omega
           have HZ : Hp w S [.blk m [.slice q0 a0.l.length k0, .slice q1 a1.l.length k1, .slice q2 a2.l.length k2, .int .i64 (a0.p : Int), .int .i64 (a1.p : Int), .int .i64 (a2.p : Int), .bool cl] 39, .que q0 a0.l.length k0 9 (mq a0.l), .que q1 a1.l.length k1 9 (mq a1.l), .que q2 a2.l.length k2 9 (mq a2.l)] w18 := by rw [show a2.p = 0 from hz2.1 (by omega)]; exact H20
           refine G.fit [0, 5] (M' := [(0, pt m 0), (5, .int .i64 0)]) (by kernel_rfl) ?_
           exact J171 () _ ⟨trivial, HZ⟩
       · skip
         have hb192f := of_decide_eq_true hb192
         refine G.yes rfl ?_
         refine G.region ?_
         refine GL.run (j := 2) 2 [0, 5, 7] [(0, pt m 0), (5, .int .i64 1), (7, .int .i64 1)] (by kernel_rfl) rfl ?_
         refine GL.k rfl hK189 (fun _ _ h => h) ?_
         refine G.region ?_
         refine GL.run (j := 3) 3 [0, 5, 7] [(0, pt m 0), (5, .int .i64 1), (7, .int .i64 0)] (by kernel_rfl) rfl ?_
         refine GL.round rfl ?_
         refine G.seqK fun K210 hK211 => ?_
         refine G.seqK fun K212 hK213 => ?_
         refine G.region ?_
         refine GL.run (j := 2) 2 [0, 5, 7, 31] [(0, pt m 0), (5, .int .i64 1), (7, .int .i64 0), (31, .bool true)] (by kernel_rfl) rfl ?_
         refine GL.k rfl hK213 (fun _ _ h => h) ?_
         refine G.yes rfl ?_
         refine G.skipK hK211 (fun _ _ h => h) ?_
         refine G.seqK fun K214 hK215 => ?_
         refine G.block ?_
         refine G.seqK fun K216 hK217 => ?_
         refine G.region ?_
         refine GL.run (j := 5) 5 [0, 5, 7, 38] [(0, pt m 0), (5, .int .i64 1), (7, .int .i64 0), (38, pt m 3)] (by kernel_rfl) rfl ?_
         refine GL.sem (j := 6) (H20.ld (o := 3) (ty := 3) (v := .int .i64 (a0.p : Int)) 0 rfl (by kernel_rfl) rfl) [0, 5, 7, 39] [(0, pt m 0), (5, .int .i64 1), (7, .int .i64 0), (39, .int .i64 (a0.p : Int))] (by kernel_rfl) (by kernel_rfl) rfl ?_
         refine GL.run (j := 7) 1 [0, 5, 7, 40] [(0, pt m 0), (5, .int .i64 1), (7, .int .i64 0), (40, .bool (decide (4 ≤ (a0.p : Int))))] (by kernel_rfl) rfl ?_
         refine GL.k rfl hK217 (fun _ _ h => h) ?_
         cases hb218 : (decide (4 ≤ (a0.p : Int)))
         · skip
           have hb218f := of_decide_eq_false hb218
           refine G.no rfl ?_
           refine G.skipK hK215 (fun _ _ h => h) ?_
           refine G.region ?_
           refine GL.run (j := 3) 3 [0, 5, 7] [(0, pt m 0), (5, .int .i64 1), (7, .int .i64 (-1))] (by kernel_rfl) rfl ?_
           refine GL.round rfl ?_
           refine G.seqK fun K219 hK220 => ?_
           refine G.seqK fun K221 hK222 => ?_
           refine G.region ?_
           refine GL.run (j := 2) 2 [0, 5, 7, 31] [(0, pt m 0), (5, .int .i64 1), (7, .int .i64 (-1)), (31, .bool false)] (by kernel_rfl) rfl ?_
           refine GL.k rfl hK222 (fun _ _ h => h) ?_
           refine G.no rfl ?_
           refine G.exitK hK173 (fun _ _ h => h) ?_
           have e0 : tkN a0 a1 a2 = 1 := by
             unfold tkN
             repeat' split
             all_goals omega
           exact absurd (htk.symm.trans e0) (by decide)
         · skip
           have hb218f := of_decide_eq_true hb218
           refine G.yes rfl ?_
           refine G.region ?_
           refine GL.run (j := 2) 2 [0, 5, 7] [(0, pt m 0), (5, .int .i64 0), (7, .int .i64 0)] (by kernel_rfl) rfl ?_
           refine GL.k rfl hK215 (fun _ _ h => h) ?_
           refine G.region ?_
           refine GL.run (j := 3) 3 [0, 5, 7] [(0, pt m 0), (5, .int .i64 0), (7, .int .i64 (-1))] (by kernel_rfl) rfl ?_
           refine GL.round rfl ?_
           refine G.seqK fun K223 hK224 => ?_
           refine G.seqK fun K225 hK226 => ?_
           refine G.region ?_
           refine GL.run (j := 2) 2 [0, 5, 7, 31] [(0, pt m 0), (5, .int .i64 0), (7, .int .i64 (-1)), (31, .bool false)] (by kernel_rfl) rfl ?_
           refine GL.k rfl hK226 (fun _ _ h => h) ?_
           refine G.no rfl ?_
           refine G.exitK hK173 (fun _ _ h => h) ?_
           have e0 : tkN a0 a1 a2 = 0 := by
             unfold tkN
             repeat' split
             all_goals omega
           have HZ : Hp w S [.blk m [.slice q0 a0.l.length k0, .slice q1 a1.l.length k1, .slice q2 a2.l.length k2, .int .i64 (a0.p : Int), .int .i64 (a1.p : Int), .int .i64 (a2.p : Int), .bool cl] 39, .que q0 a0.l.length k0 9 (mq a0.l), .que q1 a1.l.length k1 9 (mq a1.l), .que q2 a2.l.length k2 9 (mq a2.l)] w18 := by rw [show a2.p = 0 from hz2.1 (by omega)]; exact H20
           refine G.fit [0, 5] (M' := [(0, pt m 0), (5, .int .i64 0)]) (by kernel_rfl) ?_
           exact J171 () _ ⟨trivial, HZ⟩
     · skip
       rintro _ w227 ⟨hi228, H229⟩
       refine G.eq (M' := [(0, pt m 0), (5, .int .i64 0)]) rfl ?_
       have H229 : Hp w S [.blk m [.slice q0 a0.l.length k0, .slice q1 a1.l.length k1, .slice q2 a2.l.length k2, .int .i64 (a0.p : Int), .int .i64 (a1.p : Int), .int .i64 (a2.p : Int), .bool cl] 39, .que q0 a0.l.length k0 9 (mq a0.l), .que q1 a1.l.length k1 9 (mq a1.l), .que q2 a2.l.length k2 9 (mq a2.l)] w227 := H229
       refine G.seqK fun K230 hK231 => ?_
       refine G.seqK fun K232 hK233 => ?_
       refine G.region ?_
       refine GL.run (j := 1) 1 [0, 5, 42] [(0, pt m 0), (5, .int .i64 0), (42, .int .i64 0)] (by kernel_rfl) rfl ?_
       refine GL.k rfl hK233 (fun _ _ h => h) ?_
       refine G.block ?_
       refine G.unroll 3 ?_
       refine G.seqK fun K234 hK235 => ?_
       refine G.region ?_
       refine GL.run (j := 1) 1 [0, 5, 42, 43] [(0, pt m 0), (5, .int .i64 0), (42, .int .i64 0), (43, .bool true)] (by kernel_rfl) rfl ?_
       refine GL.k rfl hK235 (fun _ _ h => h) ?_
       refine G.seqK fun K236 hK237 => ?_
       refine G.yes rfl ?_
       refine G.skipK hK237 (fun _ _ h => h) ?_
       refine G.seqK fun K238 hK239 => ?_
       refine G.block ?_
       refine G.seqK fun K240 hK241 => ?_
       refine G.region ?_
       refine GL.run (j := 2) 2 [0, 5, 8, 42] [(0, pt m 0), (5, .int .i64 0), (8, .int .i64 0), (42, .int .i64 0)] (by kernel_rfl) rfl ?_
       refine GL.k rfl hK241 (fun _ _ h => h) ?_
       refine G.seqK fun K242 hK243 => ?_
       refine G.region ?_
       refine GL.run (j := 5) 5 [0, 5, 8, 42, 49] [(0, pt m 0), (5, .int .i64 0), (8, .int .i64 0), (42, .int .i64 0), (49, pt m 0)] (by kernel_rfl) rfl ?_
       refine GL.sem (j := 6) (H229.ld (o := 0) (ty := 36) (v := .slice q0 a0.l.length k0) 0 rfl (by kernel_rfl) rfl) [0, 5, 8, 42, 50] [(0, pt m 0), (5, .int .i64 0), (8, .int .i64 0), (42, .int .i64 0), (50, .slice q0 a0.l.length k0)] (by kernel_rfl) (by kernel_rfl) rfl ?_
       refine GL.run (j := 8) 2 [0, 5, 8, 42, 52] [(0, pt m 0), (5, .int .i64 0), (8, .int .i64 0), (42, .int .i64 0), (52, .bool (decide (0 < (a0.l.length : Int))))] (by kernel_rfl) rfl ?_
       refine GL.k rfl hK243 (fun _ _ h => h) ?_
       have hb244 : (decide (0 < (a0.l.length : Int))) = true := by assumption
       rw [hb244]
       refine G.yes rfl ?_
       refine G.tail 10 (by kernel_rfl) (by kernel_rfl) ?_
       have H245 := H229.drew
       generalize ({ w227 with drawn := w227.drawn + 1 } : World) = w246 at H245 ⊢
       refine GS.run (j := 5) 5 [0, 5, 42, 53, 54, 57] [(0, pt m 0), (5, .int .i64 0), (42, .int .i64 0), (53, pt m 0), (54, .int .i64 0), (57, pt m 3)] (by kernel_rfl) rfl rfl ?_
       refine GS.sem (j := 6) (H245.ld (o := 3) (ty := 3) (v := .int .i64 (a0.p : Int)) 0 rfl (by kernel_rfl) rfl) [0, 5, 42, 53, 54, 58] [(0, pt m 0), (5, .int .i64 0), (42, .int .i64 0), (53, pt m 0), (54, .int .i64 0), (58, .int .i64 (a0.p : Int))] (by kernel_rfl) (by kernel_rfl) rfl rfl ?_
       refine GS.run (j := 10) 4 [0, 5, 42, 59, 62] [(0, pt m 0), (5, .int .i64 0), (42, .int .i64 0), (59, .int .i64 (IntKind.i64.wrap ((a0.p : Int) + 1))), (62, pt m 3)] (by kernel_rfl) rfl rfl ?_
       have e247 : (IntKind.i64.wrap ((a0.p : Int) + 1)) = ((a0.p + 1 : Nat) : Int) := by rw [in_i64 (by omega)]; omega
       refine GS.eq (M' := [(0, pt m 0), (5, .int .i64 0), (42, .int .i64 0), (59, .int .i64 ((a0.p + 1 : Nat) : Int)), (62, pt m 3)]) (by rw [e247]) ?_
       clear e247
       refine GS.tail rfl ?_
       obtain ⟨w248, r249, H250⟩ := H245.st (P := Try.prog) (o := 3) (ty := 3) (v := .int .i64 ((a0.p + 1 : Nat) : Int)) 0 rfl (by kernel_rfl) (by simp) rfl
       have H250 : Hp w S [.blk m [.slice q0 a0.l.length k0, .slice q1 a1.l.length k1, .slice q2 a2.l.length k2, .int .i64 ((a0.p + 1 : Nat) : Int), .int .i64 (a1.p : Int), .int .i64 (a2.p : Int), .bool cl] 39, .que q0 a0.l.length k0 9 (mq a0.l), .que q1 a1.l.length k1 9 (mq a1.l), .que q2 a2.l.length k2 9 (mq a2.l)] w248 := H250
       refine GL.semU (j := 11) r249 [0, 5, 42] [(0, pt m 0), (5, .int .i64 0), (42, .int .i64 0)] (by kernel_rfl) rfl rfl rfl ?_
       refine GL.k rfl hK239 (fun _ _ h => h) ?_
       refine G.region ?_
       refine GL.run (j := 2) 2 [0, 5, 42] [(0, pt m 0), (5, .int .i64 0), (42, .int .i64 1)] (by kernel_rfl) rfl ?_
       refine GL.round rfl ?_
       refine G.seqK fun K251 hK252 => ?_
       refine G.region ?_
       refine GL.run (j := 1) 1 [0, 5, 42, 43] [(0, pt m 0), (5, .int .i64 0), (42, .int .i64 1), (43, .bool true)] (by kernel_rfl) rfl ?_
       refine GL.k rfl hK252 (fun _ _ h => h) ?_
       refine G.seqK fun K253 hK254 => ?_
       refine G.yes rfl ?_
       refine G.skipK hK254 (fun _ _ h => h) ?_
       refine G.seqK fun K255 hK256 => ?_
       refine G.block ?_
       refine G.seqK fun K257 hK258 => ?_
       refine G.region ?_
       refine GL.run (j := 2) 2 [0, 5, 8, 42] [(0, pt m 0), (5, .int .i64 0), (8, .int .i64 1), (42, .int .i64 1)] (by kernel_rfl) rfl ?_
       refine GL.k rfl hK258 (fun _ _ h => h) ?_
       refine G.seqK fun K259 hK260 => ?_
       refine G.region ?_
       refine GL.run (j := 5) 5 [0, 5, 8, 42, 49] [(0, pt m 0), (5, .int .i64 0), (8, .int .i64 1), (42, .int .i64 1), (49, pt m 1)] (by kernel_rfl) rfl ?_
       refine GL.sem (j := 6) (H250.ld (o := 1) (ty := 36) (v := .slice q1 a1.l.length k1) 0 rfl (by kernel_rfl) rfl) [0, 5, 8, 42, 50] [(0, pt m 0), (5, .int .i64 0), (8, .int .i64 1), (42, .int .i64 1), (50, .slice q1 a1.l.length k1)] (by kernel_rfl) (by kernel_rfl) rfl ?_
       refine GL.run (j := 8) 2 [0, 5, 8, 42, 52] [(0, pt m 0), (5, .int .i64 0), (8, .int .i64 1), (42, .int .i64 1), (52, .bool (decide (0 < (a1.l.length : Int))))] (by kernel_rfl) rfl ?_
       refine GL.k rfl hK260 (fun _ _ h => h) ?_
       have hb261 : (decide (0 < (a1.l.length : Int))) = true := by assumption
       rw [hb261]
       refine G.yes rfl ?_
       refine G.tail 10 (by kernel_rfl) (by kernel_rfl) ?_
       have H262 := H250.drew
       generalize ({ w248 with drawn := w248.drawn + 1 } : World) = w263 at H262 ⊢
       refine GS.run (j := 5) 5 [0, 5, 42, 53, 54, 57] [(0, pt m 0), (5, .int .i64 0), (42, .int .i64 1), (53, pt m 0), (54, .int .i64 1), (57, pt m 4)] (by kernel_rfl) rfl rfl ?_
       refine GS.sem (j := 6) (H262.ld (o := 4) (ty := 3) (v := .int .i64 (a1.p : Int)) 0 rfl (by kernel_rfl) rfl) [0, 5, 42, 53, 54, 58] [(0, pt m 0), (5, .int .i64 0), (42, .int .i64 1), (53, pt m 0), (54, .int .i64 1), (58, .int .i64 (a1.p : Int))] (by kernel_rfl) (by kernel_rfl) rfl rfl ?_
       refine GS.run (j := 10) 4 [0, 5, 42, 59, 62] [(0, pt m 0), (5, .int .i64 0), (42, .int .i64 1), (59, .int .i64 (IntKind.i64.wrap ((a1.p : Int) + 1))), (62, pt m 4)] (by kernel_rfl) rfl rfl ?_
       have e264 : (IntKind.i64.wrap ((a1.p : Int) + 1)) = ((a1.p + 1 : Nat) : Int) := by rw [in_i64 (by omega)]; omega
       refine GS.eq (M' := [(0, pt m 0), (5, .int .i64 0), (42, .int .i64 1), (59, .int .i64 ((a1.p + 1 : Nat) : Int)), (62, pt m 4)]) (by rw [e264]) ?_
       clear e264
       refine GS.tail rfl ?_
       obtain ⟨w265, r266, H267⟩ := H262.st (P := Try.prog) (o := 4) (ty := 3) (v := .int .i64 ((a1.p + 1 : Nat) : Int)) 0 rfl (by kernel_rfl) (by simp) rfl
       have H267 : Hp w S [.blk m [.slice q0 a0.l.length k0, .slice q1 a1.l.length k1, .slice q2 a2.l.length k2, .int .i64 ((a0.p + 1 : Nat) : Int), .int .i64 ((a1.p + 1 : Nat) : Int), .int .i64 (a2.p : Int), .bool cl] 39, .que q0 a0.l.length k0 9 (mq a0.l), .que q1 a1.l.length k1 9 (mq a1.l), .que q2 a2.l.length k2 9 (mq a2.l)] w265 := H267
       refine GL.semU (j := 11) r266 [0, 5, 42] [(0, pt m 0), (5, .int .i64 0), (42, .int .i64 1)] (by kernel_rfl) rfl rfl rfl ?_
       refine GL.k rfl hK256 (fun _ _ h => h) ?_
       refine G.region ?_
       refine GL.run (j := 2) 2 [0, 5, 42] [(0, pt m 0), (5, .int .i64 0), (42, .int .i64 2)] (by kernel_rfl) rfl ?_
       refine GL.round rfl ?_
       refine G.seqK fun K268 hK269 => ?_
       refine G.region ?_
       refine GL.run (j := 1) 1 [0, 5, 42, 43] [(0, pt m 0), (5, .int .i64 0), (42, .int .i64 2), (43, .bool true)] (by kernel_rfl) rfl ?_
       refine GL.k rfl hK269 (fun _ _ h => h) ?_
       refine G.seqK fun K270 hK271 => ?_
       refine G.yes rfl ?_
       refine G.skipK hK271 (fun _ _ h => h) ?_
       refine G.seqK fun K272 hK273 => ?_
       refine G.block ?_
       refine G.seqK fun K274 hK275 => ?_
       refine G.region ?_
       refine GL.run (j := 2) 2 [0, 5, 8, 42] [(0, pt m 0), (5, .int .i64 0), (8, .int .i64 2), (42, .int .i64 2)] (by kernel_rfl) rfl ?_
       refine GL.k rfl hK275 (fun _ _ h => h) ?_
       refine G.seqK fun K276 hK277 => ?_
       refine G.region ?_
       refine GL.run (j := 5) 5 [0, 5, 8, 42, 49] [(0, pt m 0), (5, .int .i64 0), (8, .int .i64 2), (42, .int .i64 2), (49, pt m 2)] (by kernel_rfl) rfl ?_
       refine GL.sem (j := 6) (H267.ld (o := 2) (ty := 36) (v := .slice q2 a2.l.length k2) 0 rfl (by kernel_rfl) rfl) [0, 5, 8, 42, 50] [(0, pt m 0), (5, .int .i64 0), (8, .int .i64 2), (42, .int .i64 2), (50, .slice q2 a2.l.length k2)] (by kernel_rfl) (by kernel_rfl) rfl ?_
       refine GL.run (j := 8) 2 [0, 5, 8, 42, 52] [(0, pt m 0), (5, .int .i64 0), (8, .int .i64 2), (42, .int .i64 2), (52, .bool (decide (0 < (a2.l.length : Int))))] (by kernel_rfl) rfl ?_
       refine GL.k rfl hK277 (fun _ _ h => h) ?_
       have hb278 : (decide (0 < (a2.l.length : Int))) = false := by assumption
       rw [hb278]
       refine G.no rfl ?_
       refine G.skipK hK273 (fun _ _ h => h) ?_
       refine G.region ?_
       refine GL.run (j := 2) 2 [0, 5, 42] [(0, pt m 0), (5, .int .i64 0), (42, .int .i64 3)] (by kernel_rfl) rfl ?_
       refine GL.round rfl ?_
       refine G.seqK fun K279 hK280 => ?_
       refine G.region ?_
       refine GL.run (j := 1) 1 [0, 5, 42, 43] [(0, pt m 0), (5, .int .i64 0), (42, .int .i64 3), (43, .bool false)] (by kernel_rfl) rfl ?_
       refine GL.k rfl hK280 (fun _ _ h => h) ?_
       refine G.seqK fun K281 hK282 => ?_
       refine G.no rfl ?_
       refine G.exitK hK231 (fun _ _ h => h) ?_
       refine G.seqK fun K283 hK284 => ?_
       refine G.region ?_
       refine GL.run (j := 5) 5 [0, 5, 68] [(0, pt m 0), (5, .int .i64 0), (68, pt m 3)] (by kernel_rfl) rfl ?_
       obtain ⟨w285, r286, H287⟩ := H267.st (P := Try.prog) (o := 3) (ty := 3) (v := .int .i64 0) 0 rfl (by kernel_rfl) (by simp) rfl
       have H287 : Hp w S [.blk m [.slice q0 a0.l.length k0, .slice q1 a1.l.length k1, .slice q2 a2.l.length k2, .int .i64 0, .int .i64 ((a1.p + 1 : Nat) : Int), .int .i64 (a2.p : Int), .bool cl] 39, .que q0 a0.l.length k0 9 (mq a0.l), .que q1 a1.l.length k1 9 (mq a1.l), .que q2 a2.l.length k2 9 (mq a2.l)] w285 := H287
       refine GL.semU (j := 6) r286 [0, 5] [(0, pt m 0), (5, .int .i64 0)] (by kernel_rfl) rfl rfl rfl ?_
       refine GL.k rfl hK284 (fun _ _ h => h) ?_
       refine G.seqK fun K288 hK289 => ?_
       refine G.region ?_
       refine GL.run (j := 5) 5 [0, 5, 73] [(0, pt m 0), (5, .int .i64 0), (73, pt m 0)] (by kernel_rfl) rfl ?_
       refine GL.sem (j := 6) (H287.ld (o := 0) (ty := 36) (v := .slice q0 a0.l.length k0) 0 rfl (by kernel_rfl) rfl) [0, 5, 74] [(0, pt m 0), (5, .int .i64 0), (74, .slice q0 a0.l.length k0)] (by kernel_rfl) (by kernel_rfl) rfl ?_
       refine GL.sem (j := 7) (run_idxRd (P := Try.prog) (k := .i64) (t := 36) (A := q0) (len := a0.l.length) (cap := k0) (j := 0) (by kernel_rfl) rfl (H287.rdQue 1 rfl) (mq_length _) (by omega)) [0, 5, 75] [(0, pt m 0), (5, .int .i64 0), (75, .pointer (Option.map (fun x => Addr.add x 0) q0))] (by kernel_rfl) (by kernel_rfl) rfl ?_
       refine GL.sem (j := 8) (run_ldRd (P := Try.prog) (ty := 9) (A := q0) (j := 0) (v := .string (strOf m_.b)) (by kernel_rfl) (H287.rdQue 1 rfl) (by rw [hmq]; rfl)) [0, 5, 76] [(0, pt m 0), (5, .int .i64 0), (76, .string (strOf m_.b))] (by kernel_rfl) (by kernel_rfl) rfl ?_
       refine GL.run (j := 9) 1 [0, 5, 9] [(0, pt m 0), (5, .int .i64 0), (9, .string (strOf m_.b))] (by kernel_rfl) rfl ?_
       refine GL.k rfl hK289 (fun _ _ h => h) ?_
       refine G.seqK fun K290 hK291 => ?_
       refine G.tail 12 (by kernel_rfl) (by kernel_rfl) ?_
       have H292 := H287.drew
       generalize ({ w285 with drawn := w285.drawn + 1 } : World) = w293 at H292 ⊢
       refine GS.run (j := 7) 7 [5, 9, 77, 78, 83] [(5, .int .i64 0), (9, .string (strOf m_.b)), (77, pt m 0), (78, .int .i64 0), (83, pt m 0)] (by kernel_rfl) rfl rfl ?_
       refine GS.sem (j := 8) (H292.ld (o := 0) (ty := 36) (v := .slice q0 a0.l.length k0) 0 rfl (by kernel_rfl) rfl) [5, 9, 77, 78, 84] [(5, .int .i64 0), (9, .string (strOf m_.b)), (77, pt m 0), (78, .int .i64 0), (84, .slice q0 a0.l.length k0)] (by kernel_rfl) (by kernel_rfl) rfl rfl ?_
       refine GS.sem (j := 9) (run_tail1 (P := Try.prog) (t := 36) (n := a0.l.length) (c := k0) (A := q0) (by kernel_rfl) (by omega) (by omega)) [5, 9, 77, 78, 85] [(5, .int .i64 0), (9, .string (strOf m_.b)), (77, pt m 0), (78, .int .i64 0), (85, .slice (if k0 = 1 then q0 else q0.map fun a => Addr.add a 1) (a0.l.length - 1) (k0 - 1))] (by kernel_rfl) (by kernel_rfl) rfl rfl ?_
       refine GS.run (j := 12) 3 [5, 9, 85, 88] [(5, .int .i64 0), (9, .string (strOf m_.b)), (85, .slice (if k0 = 1 then q0 else q0.map fun a => Addr.add a 1) (a0.l.length - 1) (k0 - 1)), (88, pt m 0)] (by kernel_rfl) rfl rfl ?_
       refine GS.tail rfl ?_
       obtain ⟨w294, r295, H296⟩ := H292.st (P := Try.prog) (o := 0) (ty := 36) (v := .slice (if k0 = 1 then q0 else q0.map fun a => Addr.add a 1) (a0.l.length - 1) (k0 - 1)) 0 rfl (by kernel_rfl) (by simp) rfl
       have H296 : Hp w S [.blk m [.slice (if k0 = 1 then q0 else q0.map fun a => Addr.add a 1) (a0.l.length - 1) (k0 - 1), .slice q1 a1.l.length k1, .slice q2 a2.l.length k2, .int .i64 0, .int .i64 ((a1.p + 1 : Nat) : Int), .int .i64 (a2.p : Int), .bool cl] 39, .que q0 a0.l.length k0 9 (mq a0.l), .que q1 a1.l.length k1 9 (mq a1.l), .que q2 a2.l.length k2 9 (mq a2.l)] w294 := H296
       refine GL.semU (j := 13) r295 [5, 9] [(5, .int .i64 0), (9, .string (strOf m_.b))] (by kernel_rfl) rfl rfl rfl ?_
       refine GL.k rfl hK291 (fun _ _ h => h) ?_
       refine G.seqK fun K297 hK298 => ?_
       refine G.region ?_
       refine GL.run (j := 5) 5 [2, 3, 4] [(2, .string (strOf m_.b)), (3, .int .i64 0), (4, .bool true)] (by kernel_rfl) rfl ?_
       refine GL.k rfl hK298 (fun _ _ h => h) ?_
       refine G.ret ?_
       intro F_ hF_ hM_
       refine hRet _ _ (bodyPost_3 rfl (RV.tmp rfl) (RV.tmp rfl) (RV.tmp rfl) ?_ F_ hF_ hM_)
       have HT := H296.queTail 1 (x := .string (strOf m_.b)) (xs := mq t_) (by rw [← hmq]; rfl) (by rw [mq_length, hlk]; rfl)
       have HZ : Hp w S [.blk m [.slice (if k0 = 1 then q0 else q0.map fun a => Addr.add a 1) ((a0.took t_).l.length) (k0 - 1), .slice q1 a1.pass.l.length k1, .slice q2 a2.pass.l.length k2, .int .i64 (((a0.took t_).p : Nat) : Int), .int .i64 (a1.pass.p : Int), .int .i64 (a2.pass.p : Int), .bool cl] 39, .que (if k0 = 1 then q0 else q0.map fun a => Addr.add a 1) ((a0.took t_).l.length) (k0 - 1) 9 (mq (a0.took t_).l), .que q1 a1.pass.l.length k1 9 (mq a1.pass.l), .que q2 a2.pass.l.length k2 9 (mq a2.pass.l)] w294 := by rw [show (a0.took t_).l.length = a0.l.length - 1 by rw [hlk]; rfl, show a1.pass.p = a1.p + 1 by unfold Lane.pass; exact if_neg (by omega), show a2.pass.p = a2.p by unfold Lane.pass; exact if_pos (by omega)]; exact HT
       exact ⟨_, _, rfl, HZ⟩
 · skip
   have hb17f := of_decide_eq_true hb17
   refine G.yes rfl ?_
   refine G.region ?_
   refine GL.run (j := 2) 2 [0, 5, 6] [(0, pt m 0), (5, .int .i64 2), (6, .int .i64 2)] (by kernel_rfl) rfl ?_
   refine GL.k rfl hK14 (fun _ _ h => h) ?_
   refine G.region ?_
   refine GL.run (j := 3) 3 [0, 5, 6] [(0, pt m 0), (5, .int .i64 2), (6, .int .i64 1)] (by kernel_rfl) rfl ?_
   refine GL.round rfl ?_
   refine G.seqK fun K299 hK300 => ?_
   refine G.seqK fun K301 hK302 => ?_
   refine G.region ?_
   refine GL.run (j := 2) 2 [0, 5, 6, 11] [(0, pt m 0), (5, .int .i64 2), (6, .int .i64 1), (11, .bool true)] (by kernel_rfl) rfl ?_
   refine GL.k rfl hK302 (fun _ _ h => h) ?_
   refine G.yes rfl ?_
   refine G.skipK hK300 (fun _ _ h => h) ?_
   refine G.seqK fun K303 hK304 => ?_
   refine G.block ?_
   refine G.seqK fun K305 hK306 => ?_
   refine G.region ?_
   refine GL.run (j := 5) 5 [0, 5, 6, 18] [(0, pt m 0), (5, .int .i64 2), (6, .int .i64 1), (18, pt m 1)] (by kernel_rfl) rfl ?_
   refine GL.sem (j := 6) (H.ld (o := 1) (ty := 36) (v := .slice q1 a1.l.length k1) 0 rfl (by kernel_rfl) rfl) [0, 5, 6, 19] [(0, pt m 0), (5, .int .i64 2), (6, .int .i64 1), (19, .slice q1 a1.l.length k1)] (by kernel_rfl) (by kernel_rfl) rfl ?_
   refine GL.run (j := 8) 2 [0, 5, 6, 21] [(0, pt m 0), (5, .int .i64 2), (6, .int .i64 1), (21, .bool (decide (0 < (a1.l.length : Int))))] (by kernel_rfl) rfl ?_
   refine GL.k rfl hK306 (fun _ _ h => h) ?_
   cases hb307 : (decide (0 < (a1.l.length : Int)))
   · skip
     have hb307f := of_decide_eq_false hb307
     refine G.no rfl ?_
     refine G.region ?_
     refine GL.run (j := 5) 5 [0, 5, 6, 27] [(0, pt m 0), (5, .int .i64 2), (6, .int .i64 1), (27, pt m 4)] (by kernel_rfl) rfl ?_
     obtain ⟨w308, r309, H310⟩ := H.st (P := Try.prog) (o := 4) (ty := 3) (v := .int .i64 0) 0 rfl (by kernel_rfl) (by simp) rfl
     have H310 : Hp w S [.blk m [.slice q0 a0.l.length k0, .slice q1 a1.l.length k1, .slice q2 a2.l.length k2, .int .i64 (a0.p : Int), .int .i64 0, .int .i64 (a2.p : Int), .bool cl] 39, .que q0 a0.l.length k0 9 (mq a0.l), .que q1 a1.l.length k1 9 (mq a1.l), .que q2 a2.l.length k2 9 (mq a2.l)] w308 := H310
     refine GL.semU (j := 6) r309 [0, 5, 6] [(0, pt m 0), (5, .int .i64 2), (6, .int .i64 1)] (by kernel_rfl) rfl rfl rfl ?_
     refine GL.k rfl hK304 (fun _ _ h => h) ?_
     refine G.region ?_
     refine GL.run (j := 3) 3 [0, 5, 6] [(0, pt m 0), (5, .int .i64 2), (6, .int .i64 0)] (by kernel_rfl) rfl ?_
     refine GL.round rfl ?_
     refine G.seqK fun K311 hK312 => ?_
     refine G.seqK fun K313 hK314 => ?_
     refine G.region ?_
     refine GL.run (j := 2) 2 [0, 5, 6, 11] [(0, pt m 0), (5, .int .i64 2), (6, .int .i64 0), (11, .bool true)] (by kernel_rfl) rfl ?_
     refine GL.k rfl hK314 (fun _ _ h => h) ?_
     refine G.yes rfl ?_
     refine G.skipK hK312 (fun _ _ h => h) ?_
     refine G.seqK fun K315 hK316 => ?_
     refine G.block ?_
     refine G.seqK fun K317 hK318 => ?_
     refine G.region ?_
     refine GL.run (j := 5) 5 [0, 5, 6, 18] [(0, pt m 0), (5, .int .i64 2), (6, .int .i64 0), (18, pt m 0)] (by kernel_rfl) rfl ?_
     refine GL.sem (j := 6) (H310.ld (o := 0) (ty := 36) (v := .slice q0 a0.l.length k0) 0 rfl (by kernel_rfl) rfl) [0, 5, 6, 19] [(0, pt m 0), (5, .int .i64 2), (6, .int .i64 0), (19, .slice q0 a0.l.length k0)] (by kernel_rfl) (by kernel_rfl) rfl ?_
     refine GL.run (j := 8) 2 [0, 5, 6, 21] [(0, pt m 0), (5, .int .i64 2), (6, .int .i64 0), (21, .bool (decide (0 < (a0.l.length : Int))))] (by kernel_rfl) rfl ?_
     refine GL.k rfl hK318 (fun _ _ h => h) ?_
     have hb319 : (decide (0 < (a0.l.length : Int))) = true := decide_eq_true (by omega)
     rw [hb319]
     refine G.yes rfl ?_
     refine G.region ?_
     refine GL.run (j := 2) 2 [0, 5, 6] [(0, pt m 0), (5, .int .i64 0), (6, .int .i64 0)] (by kernel_rfl) rfl ?_
     refine GL.k rfl hK316 (fun _ _ h => h) ?_
     refine G.region ?_
     refine GL.run (j := 3) 3 [0, 5, 6] [(0, pt m 0), (5, .int .i64 0), (6, .int .i64 (-1))] (by kernel_rfl) rfl ?_
     refine GL.round rfl ?_
     refine G.seqK fun K320 hK321 => ?_
     refine G.seqK fun K322 hK323 => ?_
     refine G.region ?_
     refine GL.run (j := 2) 2 [0, 5, 6, 11] [(0, pt m 0), (5, .int .i64 0), (6, .int .i64 (-1)), (11, .bool false)] (by kernel_rfl) rfl ?_
     refine GL.k rfl hK323 (fun _ _ h => h) ?_
     refine G.no rfl ?_
     refine G.exitK hK6 (fun _ _ h => h) ?_
     refine G.seqK fun K324 hK325 => ?_
     refine G.seqK fun K326 hK327 => ?_
     refine G.region ?_
     refine GL.run (j := 2) 2 [0, 5, 29] [(0, pt m 0), (5, .int .i64 0), (29, .bool false)] (by kernel_rfl) rfl ?_
     refine GL.k rfl hK327 (fun _ _ h => h) ?_
     refine G.no rfl ?_
     refine G.skipK hK325 (fun _ _ h => h) ?_
     refine G.seqJ (X := Unit) (fun _ => [(0, pt m 0), (5, .int .i64 0)]) (fun _ w_ => (True) ∧ Hp w S [.blk m [.slice q0 a0.l.length k0, .slice q1 a1.l.length k1, .slice q2 a2.l.length k2, .int .i64 (a0.p : Int), .int .i64 (a1.p : Int), .int .i64 (a2.p : Int), .bool cl] 39, .que q0 a0.l.length k0 9 (mq a0.l), .que q1 a1.l.length k1 9 (mq a1.l), .que q2 a2.l.length k2 9 (mq a2.l)] w_) (fun J328 K329 hK330 => ?_) ?_
     · skip
       refine G.seqK fun K331 hK332 => ?_
       refine G.region ?_
       refine GL.run (j := 1) 1 [0, 5, 7] [(0, pt m 0), (5, .int .i64 0), (7, .int .i64 2)] (by kernel_rfl) rfl ?_
       refine GL.k rfl hK332 (fun _ _ h => h) ?_
       refine G.block ?_
       refine G.unroll 3 ?_
       refine G.seqK fun K333 hK334 => ?_
       refine G.seqK fun K335 hK336 => ?_
       refine G.region ?_
       refine GL.run (j := 2) 2 [0, 5, 7, 31] [(0, pt m 0), (5, .int .i64 0), (7, .int .i64 2), (31, .bool true)] (by kernel_rfl) rfl ?_
       refine GL.k rfl hK336 (fun _ _ h => h) ?_
       refine G.yes rfl ?_
       refine G.skipK hK334 (fun _ _ h => h) ?_
       refine G.seqK fun K337 hK338 => ?_
       refine G.block ?_
       refine G.seqK fun K339 hK340 => ?_
       refine G.region ?_
       refine GL.run (j := 5) 5 [0, 5, 7, 38] [(0, pt m 0), (5, .int .i64 0), (7, .int .i64 2), (38, pt m 5)] (by kernel_rfl) rfl ?_
       refine GL.sem (j := 6) (H310.ld (o := 5) (ty := 3) (v := .int .i64 (a2.p : Int)) 0 rfl (by kernel_rfl) rfl) [0, 5, 7, 39] [(0, pt m 0), (5, .int .i64 0), (7, .int .i64 2), (39, .int .i64 (a2.p : Int))] (by kernel_rfl) (by kernel_rfl) rfl ?_
       refine GL.run (j := 7) 1 [0, 5, 7, 40] [(0, pt m 0), (5, .int .i64 0), (7, .int .i64 2), (40, .bool (decide (4 ≤ (a2.p : Int))))] (by kernel_rfl) rfl ?_
       refine GL.k rfl hK340 (fun _ _ h => h) ?_
       cases hb341 : (decide (4 ≤ (a2.p : Int)))
       · skip
         have hb341f := of_decide_eq_false hb341
         refine G.no rfl ?_
         refine G.skipK hK338 (fun _ _ h => h) ?_
         refine G.region ?_
         refine GL.run (j := 3) 3 [0, 5, 7] [(0, pt m 0), (5, .int .i64 0), (7, .int .i64 1)] (by kernel_rfl) rfl ?_
         refine GL.round rfl ?_
         refine G.seqK fun K342 hK343 => ?_
         refine G.seqK fun K344 hK345 => ?_
         refine G.region ?_
         refine GL.run (j := 2) 2 [0, 5, 7, 31] [(0, pt m 0), (5, .int .i64 0), (7, .int .i64 1), (31, .bool true)] (by kernel_rfl) rfl ?_
         refine GL.k rfl hK345 (fun _ _ h => h) ?_
         refine G.yes rfl ?_
         refine G.skipK hK343 (fun _ _ h => h) ?_
         refine G.seqK fun K346 hK347 => ?_
         refine G.block ?_
         refine G.seqK fun K348 hK349 => ?_
         refine G.region ?_
         refine GL.run (j := 5) 5 [0, 5, 7, 38] [(0, pt m 0), (5, .int .i64 0), (7, .int .i64 1), (38, pt m 4)] (by kernel_rfl) rfl ?_
         refine GL.sem (j := 6) (H310.ld (o := 4) (ty := 3) (v := .int .i64 0) 0 rfl (by kernel_rfl) rfl) [0, 5, 7, 39] [(0, pt m 0), (5, .int .i64 0), (7, .int .i64 1), (39, .int .i64 0)] (by kernel_rfl) (by kernel_rfl) rfl ?_
         refine GL.run (j := 7) 1 [0, 5, 7, 40] [(0, pt m 0), (5, .int .i64 0), (7, .int .i64 1), (40, .bool false)] (by kernel_rfl) rfl ?_
         refine GL.k rfl hK349 (fun _ _ h => h) ?_
         refine G.no rfl ?_
         refine G.skipK hK347 (fun _ _ h => h) ?_
         refine G.region ?_
         refine GL.run (j := 3) 3 [0, 5, 7] [(0, pt m 0), (5, .int .i64 0), (7, .int .i64 0)] (by kernel_rfl) rfl ?_
         refine GL.round rfl ?_
         refine G.seqK fun K350 hK351 => ?_
         refine G.seqK fun K352 hK353 => ?_
         refine G.region ?_
         refine GL.run (j := 2) 2 [0, 5, 7, 31] [(0, pt m 0), (5, .int .i64 0), (7, .int .i64 0), (31, .bool true)] (by kernel_rfl) rfl ?_
         refine GL.k rfl hK353 (fun _ _ h => h) ?_
         refine G.yes rfl ?_
         refine G.skipK hK351 (fun _ _ h => h) ?_
         refine G.seqK fun K354 hK355 => ?_
         refine G.block ?_
         refine G.seqK fun K356 hK357 => ?_
         refine G.region ?_
         refine GL.run (j := 5) 5 [0, 5, 7, 38] [(0, pt m 0), (5, .int .i64 0), (7, .int .i64 0), (38, pt m 3)] (by kernel_rfl) rfl ?_
         refine GL.sem (j := 6) (H310.ld (o := 3) (ty := 3) (v := .int .i64 (a0.p : Int)) 0 rfl (by kernel_rfl) rfl) [0, 5, 7, 39] [(0, pt m 0), (5, .int .i64 0), (7, .int .i64 0), (39, .int .i64 (a0.p : Int))] (by kernel_rfl) (by kernel_rfl) rfl ?_
         refine GL.run (j := 7) 1 [0, 5, 7, 40] [(0, pt m 0), (5, .int .i64 0), (7, .int .i64 0), (40, .bool (decide (4 ≤ (a0.p : Int))))] (by kernel_rfl) rfl ?_
         refine GL.k rfl hK357 (fun _ _ h => h) ?_
         cases hb358 : (decide (4 ≤ (a0.p : Int)))
         · skip
           have hb358f := of_decide_eq_false hb358
           refine G.no rfl ?_
           refine G.skipK hK355 (fun _ _ h => h) ?_
           refine G.region ?_
           refine GL.run (j := 3) 3 [0, 5, 7] [(0, pt m 0), (5, .int .i64 0), (7, .int .i64 (-1))] (by kernel_rfl) rfl ?_
           refine GL.round rfl ?_
           refine G.seqK fun K359 hK360 => ?_
           refine G.seqK fun K361 hK362 => ?_
           refine G.region ?_
           refine GL.run (j := 2) 2 [0, 5, 7, 31] [(0, pt m 0), (5, .int .i64 0), (7, .int .i64 (-1)), (31, .bool false)] (by kernel_rfl) rfl ?_
           refine GL.k rfl hK362 (fun _ _ h => h) ?_
           refine G.no rfl ?_
           refine G.exitK hK330 (fun _ _ h => h) ?_
           have e0 : tkN a0 a1 a2 = 0 := by
             unfold tkN
             repeat' split
             all_goals omega
           have HZ : Hp w S [.blk m [.slice q0 a0.l.length k0, .slice q1 a1.l.length k1, .slice q2 a2.l.length k2, .int .i64 (a0.p : Int), .int .i64 (a1.p : Int), .int .i64 (a2.p : Int), .bool cl] 39, .que q0 a0.l.length k0 9 (mq a0.l), .que q1 a1.l.length k1 9 (mq a1.l), .que q2 a2.l.length k2 9 (mq a2.l)] w308 := by rw [show a1.p = 0 from hz1.1 (by omega)]; exact H310
           refine G.fit [0, 5] (M' := [(0, pt m 0), (5, .int .i64 0)]) (by kernel_rfl) ?_
           exact J328 () _ ⟨trivial, HZ⟩
         · skip
           have hb358f := of_decide_eq_true hb358
           refine G.yes rfl ?_
           refine G.region ?_
           refine GL.run (j := 2) 2 [0, 5, 7] [(0, pt m 0), (5, .int .i64 0), (7, .int .i64 0)] (by kernel_rfl) rfl ?_
           refine GL.k rfl hK355 (fun _ _ h => h) ?_
           refine G.region ?_
           refine GL.run (j := 3) 3 [0, 5, 7] [(0, pt m 0), (5, .int .i64 0), (7, .int .i64 (-1))] (by kernel_rfl) rfl ?_
           refine GL.round rfl ?_
           refine G.seqK fun K363 hK364 => ?_
           refine G.seqK fun K365 hK366 => ?_
           refine G.region ?_
           refine GL.run (j := 2) 2 [0, 5, 7, 31] [(0, pt m 0), (5, .int .i64 0), (7, .int .i64 (-1)), (31, .bool false)] (by kernel_rfl) rfl ?_
           refine GL.k rfl hK366 (fun _ _ h => h) ?_
           refine G.no rfl ?_
           refine G.exitK hK330 (fun _ _ h => h) ?_
           have e0 : tkN a0 a1 a2 = 0 := by
             unfold tkN
             repeat' split
             all_goals omega
           have HZ : Hp w S [.blk m [.slice q0 a0.l.length k0, .slice q1 a1.l.length k1, .slice q2 a2.l.length k2, .int .i64 (a0.p : Int), .int .i64 (a1.p : Int), .int .i64 (a2.p : Int), .bool cl] 39, .que q0 a0.l.length k0 9 (mq a0.l), .que q1 a1.l.length k1 9 (mq a1.l), .que q2 a2.l.length k2 9 (mq a2.l)] w308 := by rw [show a1.p = 0 from hz1.1 (by omega)]; exact H310
           refine G.fit [0, 5] (M' := [(0, pt m 0), (5, .int .i64 0)]) (by kernel_rfl) ?_
           exact J328 () _ ⟨trivial, HZ⟩
       · skip
         have hb341f := of_decide_eq_true hb341
         refine G.yes rfl ?_
         refine G.region ?_
         refine GL.run (j := 2) 2 [0, 5, 7] [(0, pt m 0), (5, .int .i64 2), (7, .int .i64 2)] (by kernel_rfl) rfl ?_
         refine GL.k rfl hK338 (fun _ _ h => h) ?_
         refine G.region ?_
         refine GL.run (j := 3) 3 [0, 5, 7] [(0, pt m 0), (5, .int .i64 2), (7, .int .i64 1)] (by kernel_rfl) rfl ?_
         refine GL.round rfl ?_
         refine G.seqK fun K367 hK368 => ?_
         refine G.seqK fun K369 hK370 => ?_
         refine G.region ?_
         refine GL.run (j := 2) 2 [0, 5, 7, 31] [(0, pt m 0), (5, .int .i64 2), (7, .int .i64 1), (31, .bool true)] (by kernel_rfl) rfl ?_
         refine GL.k rfl hK370 (fun _ _ h => h) ?_
         refine G.yes rfl ?_
         refine G.skipK hK368 (fun _ _ h => h) ?_
         refine G.seqK fun K371 hK372 => ?_
         refine G.block ?_
         refine G.seqK fun K373 hK374 => ?_
         refine G.region ?_
         refine GL.run (j := 5) 5 [0, 5, 7, 38] [(0, pt m 0), (5, .int .i64 2), (7, .int .i64 1), (38, pt m 4)] (by kernel_rfl) rfl ?_
         refine GL.sem (j := 6) (H310.ld (o := 4) (ty := 3) (v := .int .i64 0) 0 rfl (by kernel_rfl) rfl) [0, 5, 7, 39] [(0, pt m 0), (5, .int .i64 2), (7, .int .i64 1), (39, .int .i64 0)] (by kernel_rfl) (by kernel_rfl) rfl ?_
         refine GL.run (j := 7) 1 [0, 5, 7, 40] [(0, pt m 0), (5, .int .i64 2), (7, .int .i64 1), (40, .bool false)] (by kernel_rfl) rfl ?_
         refine GL.k rfl hK374 (fun _ _ h => h) ?_
         refine G.no rfl ?_
         refine G.skipK hK372 (fun _ _ h => h) ?_
         refine G.region ?_
         refine GL.run (j := 3) 3 [0, 5, 7] [(0, pt m 0), (5, .int .i64 2), (7, .int .i64 0)] (by kernel_rfl) rfl ?_
         refine GL.round rfl ?_
         refine G.seqK fun K375 hK376 => ?_
         refine G.seqK fun K377 hK378 => ?_
         refine G.region ?_
         refine GL.run (j := 2) 2 [0, 5, 7, 31] [(0, pt m 0), (5, .int .i64 2), (7, .int .i64 0), (31, .bool true)] (by kernel_rfl) rfl ?_
         refine GL.k rfl hK378 (fun _ _ h => h) ?_
         refine G.yes rfl ?_
         refine G.skipK hK376 (fun _ _ h => h) ?_
         refine G.seqK fun K379 hK380 => ?_
         refine G.block ?_
         refine G.seqK fun K381 hK382 => ?_
         refine G.region ?_
         refine GL.run (j := 5) 5 [0, 5, 7, 38] [(0, pt m 0), (5, .int .i64 2), (7, .int .i64 0), (38, pt m 3)] (by kernel_rfl) rfl ?_
         refine GL.sem (j := 6) (H310.ld (o := 3) (ty := 3) (v := .int .i64 (a0.p : Int)) 0 rfl (by kernel_rfl) rfl) [0, 5, 7, 39] [(0, pt m 0), (5, .int .i64 2), (7, .int .i64 0), (39, .int .i64 (a0.p : Int))] (by kernel_rfl) (by kernel_rfl) rfl ?_
         refine GL.run (j := 7) 1 [0, 5, 7, 40] [(0, pt m 0), (5, .int .i64 2), (7, .int .i64 0), (40, .bool (decide (4 ≤ (a0.p : Int))))] (by kernel_rfl) rfl ?_
         refine GL.k rfl hK382 (fun _ _ h => h) ?_
         cases hb383 : (decide (4 ≤ (a0.p : Int)))
         · skip
           have hb383f := of_decide_eq_false hb383
           refine G.no rfl ?_
           refine G.skipK hK380 (fun _ _ h => h) ?_
           refine G.region ?_
           refine GL.run (j := 3) 3 [0, 5, 7] [(0, pt m 0), (5, .int .i64 2), (7, .int .i64 (-1))] (by kernel_rfl) rfl ?_
           refine GL.round rfl ?_
           refine G.seqK fun K384 hK385 => ?_
           refine G.seqK fun K386 hK387 => ?_
           refine G.region ?_
           refine GL.run (j := 2) 2 [0, 5, 7, 31] [(0, pt m 0), (5, .int .i64 2), (7, .int .i64 (-1)), (31, .bool false)] (by kernel_rfl) rfl ?_
           refine GL.k rfl hK387 (fun _ _ h => h) ?_
           refine G.no rfl ?_
           refine G.exitK hK330 (fun _ _ h => h) ?_
           have e0 : tkN a0 a1 a2 = 2 := by
             unfold tkN
             repeat' split
             all_goals omega
           exact absurd (htk.symm.trans e0) (by decide)
         · skip
           have hb383f := of_decide_eq_true hb383
           refine G.yes rfl ?_
           refine G.region ?_
           refine GL.run (j := 2) 2 [0, 5, 7] [(0, pt m 0), (5, .int .i64 0), (7, .int .i64 0)] (by kernel_rfl) rfl ?_
           refine GL.k rfl hK380 (fun _ _ h => h) ?_
           refine G.region ?_
           refine GL.run (j := 3) 3 [0, 5, 7] [(0, pt m 0), (5, .int .i64 0), (7, .int .i64 (-1))] (by kernel_rfl) rfl ?_
           refine GL.round rfl ?_
           refine G.seqK fun K388 hK389 => ?_
           refine G.seqK fun K390 hK391 => ?_
           refine G.region ?_
           refine GL.run (j := 2) 2 [0, 5, 7, 31] [(0, pt m 0), (5, .int .i64 0), (7, .int .i64 (-1)), (31, .bool false)] (by kernel_rfl) rfl ?_
           refine GL.k rfl hK391 (fun _ _ h => h) ?_
           refine G.no rfl ?_
           refine G.exitK hK330 (fun _ _ h => h) ?_
           have e0 : tkN a0 a1 a2 = 0 := by
             unfold tkN
             repeat' split
             all_goals omega
           have HZ : Hp w S [.blk m [.slice q0 a0.l.length k0, .slice q1 a1.l.length k1, .slice q2 a2.l.length k2, .int .i64 (a0.p : Int), .int .i64 (a1.p : Int), .int .i64 (a2.p : Int), .bool cl] 39, .que q0 a0.l.length k0 9 (mq a0.l), .que q1 a1.l.length k1 9 (mq a1.l), .que q2 a2.l.length k2 9 (mq a2.l)] w308 := by rw [show a1.p = 0 from hz1.1 (by omega)]; exact H310
           refine G.fit [0, 5] (M' := [(0, pt m 0), (5, .int .i64 0)]) (by kernel_rfl) ?_
           exact J328 () _ ⟨trivial, HZ⟩
     · skip
       rintro _ w392 ⟨hi393, H394⟩
       refine G.eq (M' := [(0, pt m 0), (5, .int .i64 0)]) rfl ?_
       have H394 : Hp w S [.blk m [.slice q0 a0.l.length k0, .slice q1 a1.l.length k1, .slice q2 a2.l.length k2, .int .i64 (a0.p : Int), .int .i64 (a1.p : Int), .int .i64 (a2.p : Int), .bool cl] 39, .que q0 a0.l.length k0 9 (mq a0.l), .que q1 a1.l.length k1 9 (mq a1.l), .que q2 a2.l.length k2 9 (mq a2.l)] w392 := H394
       refine G.seqK fun K395 hK396 => ?_
       refine G.seqK fun K397 hK398 => ?_
       refine G.region ?_
       refine GL.run (j := 1) 1 [0, 5, 42] [(0, pt m 0), (5, .int .i64 0), (42, .int .i64 0)] (by kernel_rfl) rfl ?_
       refine GL.k rfl hK398 (fun _ _ h => h) ?_
       refine G.block ?_
       refine G.unroll 3 ?_
       refine G.seqK fun K399 hK400 => ?_
       refine G.region ?_
       refine GL.run (j := 1) 1 [0, 5, 42, 43] [(0, pt m 0), (5, .int .i64 0), (42, .int .i64 0), (43, .bool true)] (by kernel_rfl) rfl ?_
       refine GL.k rfl hK400 (fun _ _ h => h) ?_
       refine G.seqK fun K401 hK402 => ?_
       refine G.yes rfl ?_
       refine G.skipK hK402 (fun _ _ h => h) ?_
       refine G.seqK fun K403 hK404 => ?_
       refine G.block ?_
       refine G.seqK fun K405 hK406 => ?_
       refine G.region ?_
       refine GL.run (j := 2) 2 [0, 5, 8, 42] [(0, pt m 0), (5, .int .i64 0), (8, .int .i64 0), (42, .int .i64 0)] (by kernel_rfl) rfl ?_
       refine GL.k rfl hK406 (fun _ _ h => h) ?_
       refine G.seqK fun K407 hK408 => ?_
       refine G.region ?_
       refine GL.run (j := 5) 5 [0, 5, 8, 42, 49] [(0, pt m 0), (5, .int .i64 0), (8, .int .i64 0), (42, .int .i64 0), (49, pt m 0)] (by kernel_rfl) rfl ?_
       refine GL.sem (j := 6) (H394.ld (o := 0) (ty := 36) (v := .slice q0 a0.l.length k0) 0 rfl (by kernel_rfl) rfl) [0, 5, 8, 42, 50] [(0, pt m 0), (5, .int .i64 0), (8, .int .i64 0), (42, .int .i64 0), (50, .slice q0 a0.l.length k0)] (by kernel_rfl) (by kernel_rfl) rfl ?_
       refine GL.run (j := 8) 2 [0, 5, 8, 42, 52] [(0, pt m 0), (5, .int .i64 0), (8, .int .i64 0), (42, .int .i64 0), (52, .bool (decide (0 < (a0.l.length : Int))))] (by kernel_rfl) rfl ?_
       refine GL.k rfl hK408 (fun _ _ h => h) ?_
       have hb409 : (decide (0 < (a0.l.length : Int))) = true := by assumption
       rw [hb409]
       refine G.yes rfl ?_
       refine G.tail 10 (by kernel_rfl) (by kernel_rfl) ?_
       have H410 := H394.drew
       generalize ({ w392 with drawn := w392.drawn + 1 } : World) = w411 at H410 ⊢
       refine GS.run (j := 5) 5 [0, 5, 42, 53, 54, 57] [(0, pt m 0), (5, .int .i64 0), (42, .int .i64 0), (53, pt m 0), (54, .int .i64 0), (57, pt m 3)] (by kernel_rfl) rfl rfl ?_
       refine GS.sem (j := 6) (H410.ld (o := 3) (ty := 3) (v := .int .i64 (a0.p : Int)) 0 rfl (by kernel_rfl) rfl) [0, 5, 42, 53, 54, 58] [(0, pt m 0), (5, .int .i64 0), (42, .int .i64 0), (53, pt m 0), (54, .int .i64 0), (58, .int .i64 (a0.p : Int))] (by kernel_rfl) (by kernel_rfl) rfl rfl ?_
       refine GS.run (j := 10) 4 [0, 5, 42, 59, 62] [(0, pt m 0), (5, .int .i64 0), (42, .int .i64 0), (59, .int .i64 (IntKind.i64.wrap ((a0.p : Int) + 1))), (62, pt m 3)] (by kernel_rfl) rfl rfl ?_
       have e412 : (IntKind.i64.wrap ((a0.p : Int) + 1)) = ((a0.p + 1 : Nat) : Int) := by rw [in_i64 (by omega)]; omega
       refine GS.eq (M' := [(0, pt m 0), (5, .int .i64 0), (42, .int .i64 0), (59, .int .i64 ((a0.p + 1 : Nat) : Int)), (62, pt m 3)]) (by rw [e412]) ?_
       clear e412
       refine GS.tail rfl ?_
       obtain ⟨w413, r414, H415⟩ := H410.st (P := Try.prog) (o := 3) (ty := 3) (v := .int .i64 ((a0.p + 1 : Nat) : Int)) 0 rfl (by kernel_rfl) (by simp) rfl
       have H415 : Hp w S [.blk m [.slice q0 a0.l.length k0, .slice q1 a1.l.length k1, .slice q2 a2.l.length k2, .int .i64 ((a0.p + 1 : Nat) : Int), .int .i64 (a1.p : Int), .int .i64 (a2.p : Int), .bool cl] 39, .que q0 a0.l.length k0 9 (mq a0.l), .que q1 a1.l.length k1 9 (mq a1.l), .que q2 a2.l.length k2 9 (mq a2.l)] w413 := H415
       refine GL.semU (j := 11) r414 [0, 5, 42] [(0, pt m 0), (5, .int .i64 0), (42, .int .i64 0)] (by kernel_rfl) rfl rfl rfl ?_
       refine GL.k rfl hK404 (fun _ _ h => h) ?_
       refine G.region ?_
       refine GL.run (j := 2) 2 [0, 5, 42] [(0, pt m 0), (5, .int .i64 0), (42, .int .i64 1)] (by kernel_rfl) rfl ?_
       refine GL.round rfl ?_
       refine G.seqK fun K416 hK417 => ?_
       refine G.region ?_
       refine GL.run (j := 1) 1 [0, 5, 42, 43] [(0, pt m 0), (5, .int .i64 0), (42, .int .i64 1), (43, .bool true)] (by kernel_rfl) rfl ?_
       refine GL.k rfl hK417 (fun _ _ h => h) ?_
       refine G.seqK fun K418 hK419 => ?_
       refine G.yes rfl ?_
       refine G.skipK hK419 (fun _ _ h => h) ?_
       refine G.seqK fun K420 hK421 => ?_
       refine G.block ?_
       refine G.seqK fun K422 hK423 => ?_
       refine G.region ?_
       refine GL.run (j := 2) 2 [0, 5, 8, 42] [(0, pt m 0), (5, .int .i64 0), (8, .int .i64 1), (42, .int .i64 1)] (by kernel_rfl) rfl ?_
       refine GL.k rfl hK423 (fun _ _ h => h) ?_
       refine G.seqK fun K424 hK425 => ?_
       refine G.region ?_
       refine GL.run (j := 5) 5 [0, 5, 8, 42, 49] [(0, pt m 0), (5, .int .i64 0), (8, .int .i64 1), (42, .int .i64 1), (49, pt m 1)] (by kernel_rfl) rfl ?_
       refine GL.sem (j := 6) (H415.ld (o := 1) (ty := 36) (v := .slice q1 a1.l.length k1) 0 rfl (by kernel_rfl) rfl) [0, 5, 8, 42, 50] [(0, pt m 0), (5, .int .i64 0), (8, .int .i64 1), (42, .int .i64 1), (50, .slice q1 a1.l.length k1)] (by kernel_rfl) (by kernel_rfl) rfl ?_
       refine GL.run (j := 8) 2 [0, 5, 8, 42, 52] [(0, pt m 0), (5, .int .i64 0), (8, .int .i64 1), (42, .int .i64 1), (52, .bool (decide (0 < (a1.l.length : Int))))] (by kernel_rfl) rfl ?_
       refine GL.k rfl hK425 (fun _ _ h => h) ?_
       have hb426 : (decide (0 < (a1.l.length : Int))) = false := by assumption
       rw [hb426]
       refine G.no rfl ?_
       refine G.skipK hK421 (fun _ _ h => h) ?_
       refine G.region ?_
       refine GL.run (j := 2) 2 [0, 5, 42] [(0, pt m 0), (5, .int .i64 0), (42, .int .i64 2)] (by kernel_rfl) rfl ?_
       refine GL.round rfl ?_
       refine G.seqK fun K427 hK428 => ?_
       refine G.region ?_
       refine GL.run (j := 1) 1 [0, 5, 42, 43] [(0, pt m 0), (5, .int .i64 0), (42, .int .i64 2), (43, .bool true)] (by kernel_rfl) rfl ?_
       refine GL.k rfl hK428 (fun _ _ h => h) ?_
       refine G.seqK fun K429 hK430 => ?_
       refine G.yes rfl ?_
       refine G.skipK hK430 (fun _ _ h => h) ?_
       refine G.seqK fun K431 hK432 => ?_
       refine G.block ?_
       refine G.seqK fun K433 hK434 => ?_
       refine G.region ?_
       refine GL.run (j := 2) 2 [0, 5, 8, 42] [(0, pt m 0), (5, .int .i64 0), (8, .int .i64 2), (42, .int .i64 2)] (by kernel_rfl) rfl ?_
       refine GL.k rfl hK434 (fun _ _ h => h) ?_
       refine G.seqK fun K435 hK436 => ?_
       refine G.region ?_
       refine GL.run (j := 5) 5 [0, 5, 8, 42, 49] [(0, pt m 0), (5, .int .i64 0), (8, .int .i64 2), (42, .int .i64 2), (49, pt m 2)] (by kernel_rfl) rfl ?_
       refine GL.sem (j := 6) (H415.ld (o := 2) (ty := 36) (v := .slice q2 a2.l.length k2) 0 rfl (by kernel_rfl) rfl) [0, 5, 8, 42, 50] [(0, pt m 0), (5, .int .i64 0), (8, .int .i64 2), (42, .int .i64 2), (50, .slice q2 a2.l.length k2)] (by kernel_rfl) (by kernel_rfl) rfl ?_
       refine GL.run (j := 8) 2 [0, 5, 8, 42, 52] [(0, pt m 0), (5, .int .i64 0), (8, .int .i64 2), (42, .int .i64 2), (52, .bool (decide (0 < (a2.l.length : Int))))] (by kernel_rfl) rfl ?_
       refine GL.k rfl hK436 (fun _ _ h => h) ?_
       have hb437 : (decide (0 < (a2.l.length : Int))) = true := by assumption
       rw [hb437]
       refine G.yes rfl ?_
       refine G.tail 10 (by kernel_rfl) (by kernel_rfl) ?_
       have H438 := H415.drew
       generalize ({ w413 with drawn := w413.drawn + 1 } : World) = w439 at H438 ⊢
       refine GS.run (j := 5) 5 [0, 5, 42, 53, 54, 57] [(0, pt m 0), (5, .int .i64 0), (42, .int .i64 2), (53, pt m 0), (54, .int .i64 2), (57, pt m 5)] (by kernel_rfl) rfl rfl ?_
       refine GS.sem (j := 6) (H438.ld (o := 5) (ty := 3) (v := .int .i64 (a2.p : Int)) 0 rfl (by kernel_rfl) rfl) [0, 5, 42, 53, 54, 58] [(0, pt m 0), (5, .int .i64 0), (42, .int .i64 2), (53, pt m 0), (54, .int .i64 2), (58, .int .i64 (a2.p : Int))] (by kernel_rfl) (by kernel_rfl) rfl rfl ?_
       refine GS.run (j := 10) 4 [0, 5, 42, 59, 62] [(0, pt m 0), (5, .int .i64 0), (42, .int .i64 2), (59, .int .i64 (IntKind.i64.wrap ((a2.p : Int) + 1))), (62, pt m 5)] (by kernel_rfl) rfl rfl ?_
       have e440 : (IntKind.i64.wrap ((a2.p : Int) + 1)) = ((a2.p + 1 : Nat) : Int) := by rw [in_i64 (by omega)]; omega
       refine GS.eq (M' := [(0, pt m 0), (5, .int .i64 0), (42, .int .i64 2), (59, .int .i64 ((a2.p + 1 : Nat) : Int)), (62, pt m 5)]) (by rw [e440]) ?_
       clear e440
       refine GS.tail rfl ?_
       obtain ⟨w441, r442, H443⟩ := H438.st (P := Try.prog) (o := 5) (ty := 3) (v := .int .i64 ((a2.p + 1 : Nat) : Int)) 0 rfl (by kernel_rfl) (by simp) rfl
       have H443 : Hp w S [.blk m [.slice q0 a0.l.length k0, .slice q1 a1.l.length k1, .slice q2 a2.l.length k2, .int .i64 ((a0.p + 1 : Nat) : Int), .int .i64 (a1.p : Int), .int .i64 ((a2.p + 1 : Nat) : Int), .bool cl] 39, .que q0 a0.l.length k0 9 (mq a0.l), .que q1 a1.l.length k1 9 (mq a1.l), .que q2 a2.l.length k2 9 (mq a2.l)] w441 := H443
       refine GL.semU (j := 11) r442 [0, 5, 42] [(0, pt m 0), (5, .int .i64 0), (42, .int .i64 2)] (by kernel_rfl) rfl rfl rfl ?_
       refine GL.k rfl hK432 (fun _ _ h => h) ?_
       refine G.region ?_
       refine GL.run (j := 2) 2 [0, 5, 42] [(0, pt m 0), (5, .int .i64 0), (42, .int .i64 3)] (by kernel_rfl) rfl ?_
       refine GL.round rfl ?_
       refine G.seqK fun K444 hK445 => ?_
       refine G.region ?_
       refine GL.run (j := 1) 1 [0, 5, 42, 43] [(0, pt m 0), (5, .int .i64 0), (42, .int .i64 3), (43, .bool false)] (by kernel_rfl) rfl ?_
       refine GL.k rfl hK445 (fun _ _ h => h) ?_
       refine G.seqK fun K446 hK447 => ?_
       refine G.no rfl ?_
       refine G.exitK hK396 (fun _ _ h => h) ?_
       refine G.seqK fun K448 hK449 => ?_
       refine G.region ?_
       refine GL.run (j := 5) 5 [0, 5, 68] [(0, pt m 0), (5, .int .i64 0), (68, pt m 3)] (by kernel_rfl) rfl ?_
       obtain ⟨w450, r451, H452⟩ := H443.st (P := Try.prog) (o := 3) (ty := 3) (v := .int .i64 0) 0 rfl (by kernel_rfl) (by simp) rfl
       have H452 : Hp w S [.blk m [.slice q0 a0.l.length k0, .slice q1 a1.l.length k1, .slice q2 a2.l.length k2, .int .i64 0, .int .i64 (a1.p : Int), .int .i64 ((a2.p + 1 : Nat) : Int), .bool cl] 39, .que q0 a0.l.length k0 9 (mq a0.l), .que q1 a1.l.length k1 9 (mq a1.l), .que q2 a2.l.length k2 9 (mq a2.l)] w450 := H452
       refine GL.semU (j := 6) r451 [0, 5] [(0, pt m 0), (5, .int .i64 0)] (by kernel_rfl) rfl rfl rfl ?_
       refine GL.k rfl hK449 (fun _ _ h => h) ?_
       refine G.seqK fun K453 hK454 => ?_
       refine G.region ?_
       refine GL.run (j := 5) 5 [0, 5, 73] [(0, pt m 0), (5, .int .i64 0), (73, pt m 0)] (by kernel_rfl) rfl ?_
       refine GL.sem (j := 6) (H452.ld (o := 0) (ty := 36) (v := .slice q0 a0.l.length k0) 0 rfl (by kernel_rfl) rfl) [0, 5, 74] [(0, pt m 0), (5, .int .i64 0), (74, .slice q0 a0.l.length k0)] (by kernel_rfl) (by kernel_rfl) rfl ?_
       refine GL.sem (j := 7) (run_idxRd (P := Try.prog) (k := .i64) (t := 36) (A := q0) (len := a0.l.length) (cap := k0) (j := 0) (by kernel_rfl) rfl (H452.rdQue 1 rfl) (mq_length _) (by omega)) [0, 5, 75] [(0, pt m 0), (5, .int .i64 0), (75, .pointer (Option.map (fun x => Addr.add x 0) q0))] (by kernel_rfl) (by kernel_rfl) rfl ?_
       refine GL.sem (j := 8) (run_ldRd (P := Try.prog) (ty := 9) (A := q0) (j := 0) (v := .string (strOf m_.b)) (by kernel_rfl) (H452.rdQue 1 rfl) (by rw [hmq]; rfl)) [0, 5, 76] [(0, pt m 0), (5, .int .i64 0), (76, .string (strOf m_.b))] (by kernel_rfl) (by kernel_rfl) rfl ?_
       refine GL.run (j := 9) 1 [0, 5, 9] [(0, pt m 0), (5, .int .i64 0), (9, .string (strOf m_.b))] (by kernel_rfl) rfl ?_
       refine GL.k rfl hK454 (fun _ _ h => h) ?_
       refine G.seqK fun K455 hK456 => ?_
       refine G.tail 12 (by kernel_rfl) (by kernel_rfl) ?_
       have H457 := H452.drew
       generalize ({ w450 with drawn := w450.drawn + 1 } : World) = w458 at H457 ⊢
       refine GS.run (j := 7) 7 [5, 9, 77, 78, 83] [(5, .int .i64 0), (9, .string (strOf m_.b)), (77, pt m 0), (78, .int .i64 0), (83, pt m 0)] (by kernel_rfl) rfl rfl ?_
       refine GS.sem (j := 8) (H457.ld (o := 0) (ty := 36) (v := .slice q0 a0.l.length k0) 0 rfl (by kernel_rfl) rfl) [5, 9, 77, 78, 84] [(5, .int .i64 0), (9, .string (strOf m_.b)), (77, pt m 0), (78, .int .i64 0), (84, .slice q0 a0.l.length k0)] (by kernel_rfl) (by kernel_rfl) rfl rfl ?_
       refine GS.sem (j := 9) (run_tail1 (P := Try.prog) (t := 36) (n := a0.l.length) (c := k0) (A := q0) (by kernel_rfl) (by omega) (by omega)) [5, 9, 77, 78, 85] [(5, .int .i64 0), (9, .string (strOf m_.b)), (77, pt m 0), (78, .int .i64 0), (85, .slice (if k0 = 1 then q0 else q0.map fun a => Addr.add a 1) (a0.l.length - 1) (k0 - 1))] (by kernel_rfl) (by kernel_rfl) rfl rfl ?_
       refine GS.run (j := 12) 3 [5, 9, 85, 88] [(5, .int .i64 0), (9, .string (strOf m_.b)), (85, .slice (if k0 = 1 then q0 else q0.map fun a => Addr.add a 1) (a0.l.length - 1) (k0 - 1)), (88, pt m 0)] (by kernel_rfl) rfl rfl ?_
       refine GS.tail rfl ?_
       obtain ⟨w459, r460, H461⟩ := H457.st (P := Try.prog) (o := 0) (ty := 36) (v := .slice (if k0 = 1 then q0 else q0.map fun a => Addr.add a 1) (a0.l.length - 1) (k0 - 1)) 0 rfl (by kernel_rfl) (by simp) rfl
       have H461 : Hp w S [.blk m [.slice (if k0 = 1 then q0 else q0.map fun a => Addr.add a 1) (a0.l.length - 1) (k0 - 1), .slice q1 a1.l.length k1, .slice q2 a2.l.length k2, .int .i64 0, .int .i64 (a1.p : Int), .int .i64 ((a2.p + 1 : Nat) : Int), .bool cl] 39, .que q0 a0.l.length k0 9 (mq a0.l), .que q1 a1.l.length k1 9 (mq a1.l), .que q2 a2.l.length k2 9 (mq a2.l)] w459 := H461
       refine GL.semU (j := 13) r460 [5, 9] [(5, .int .i64 0), (9, .string (strOf m_.b))] (by kernel_rfl) rfl rfl rfl ?_
       refine GL.k rfl hK456 (fun _ _ h => h) ?_
       refine G.seqK fun K462 hK463 => ?_
       refine G.region ?_
       refine GL.run (j := 5) 5 [2, 3, 4] [(2, .string (strOf m_.b)), (3, .int .i64 0), (4, .bool true)] (by kernel_rfl) rfl ?_
       refine GL.k rfl hK463 (fun _ _ h => h) ?_
       refine G.ret ?_
       intro F_ hF_ hM_
       refine hRet _ _ (bodyPost_3 rfl (RV.tmp rfl) (RV.tmp rfl) (RV.tmp rfl) ?_ F_ hF_ hM_)
       have HT := H461.queTail 1 (x := .string (strOf m_.b)) (xs := mq t_) (by rw [← hmq]; rfl) (by rw [mq_length, hlk]; rfl)
       have HZ : Hp w S [.blk m [.slice (if k0 = 1 then q0 else q0.map fun a => Addr.add a 1) ((a0.took t_).l.length) (k0 - 1), .slice q1 a1.pass.l.length k1, .slice q2 a2.pass.l.length k2, .int .i64 (((a0.took t_).p : Nat) : Int), .int .i64 (a1.pass.p : Int), .int .i64 (a2.pass.p : Int), .bool cl] 39, .que (if k0 = 1 then q0 else q0.map fun a => Addr.add a 1) ((a0.took t_).l.length) (k0 - 1) 9 (mq (a0.took t_).l), .que q1 a1.pass.l.length k1 9 (mq a1.pass.l), .que q2 a2.pass.l.length k2 9 (mq a2.pass.l)] w459 := by rw [show (a0.took t_).l.length = a0.l.length - 1 by rw [hlk]; rfl, show a1.pass.p = a1.p by unfold Lane.pass; exact if_pos (by omega), show a2.pass.p = a2.p + 1 by unfold Lane.pass; exact if_neg (by omega)]; exact HT
       exact ⟨_, _, rfl, HZ⟩
   · skip
     have hb307f := of_decide_eq_true hb307
     refine G.yes rfl ?_
     refine G.region ?_
     refine GL.run (j := 2) 2 [0, 5, 6] [(0, pt m 0), (5, .int .i64 1), (6, .int .i64 1)] (by kernel_rfl) rfl ?_
     refine GL.k rfl hK304 (fun _ _ h => h) ?_
     refine G.region ?_
     refine GL.run (j := 3) 3 [0, 5, 6] [(0, pt m 0), (5, .int .i64 1), (6, .int .i64 0)] (by kernel_rfl) rfl ?_
     refine GL.round rfl ?_
     refine G.seqK fun K464 hK465 => ?_
     refine G.seqK fun K466 hK467 => ?_
     refine G.region ?_
     refine GL.run (j := 2) 2 [0, 5, 6, 11] [(0, pt m 0), (5, .int .i64 1), (6, .int .i64 0), (11, .bool true)] (by kernel_rfl) rfl ?_
     refine GL.k rfl hK467 (fun _ _ h => h) ?_
     refine G.yes rfl ?_
     refine G.skipK hK465 (fun _ _ h => h) ?_
     refine G.seqK fun K468 hK469 => ?_
     refine G.block ?_
     refine G.seqK fun K470 hK471 => ?_
     refine G.region ?_
     refine GL.run (j := 5) 5 [0, 5, 6, 18] [(0, pt m 0), (5, .int .i64 1), (6, .int .i64 0), (18, pt m 0)] (by kernel_rfl) rfl ?_
     refine GL.sem (j := 6) (H.ld (o := 0) (ty := 36) (v := .slice q0 a0.l.length k0) 0 rfl (by kernel_rfl) rfl) [0, 5, 6, 19] [(0, pt m 0), (5, .int .i64 1), (6, .int .i64 0), (19, .slice q0 a0.l.length k0)] (by kernel_rfl) (by kernel_rfl) rfl ?_
     refine GL.run (j := 8) 2 [0, 5, 6, 21] [(0, pt m 0), (5, .int .i64 1), (6, .int .i64 0), (21, .bool (decide (0 < (a0.l.length : Int))))] (by kernel_rfl) rfl ?_
     refine GL.k rfl hK471 (fun _ _ h => h) ?_
     have hb472 : (decide (0 < (a0.l.length : Int))) = true := decide_eq_true (by omega)
     rw [hb472]
     refine G.yes rfl ?_
     refine G.region ?_
     refine GL.run (j := 2) 2 [0, 5, 6] [(0, pt m 0), (5, .int .i64 0), (6, .int .i64 0)] (by kernel_rfl) rfl ?_
     refine GL.k rfl hK469 (fun _ _ h => h) ?_
     refine G.region ?_
     refine GL.run (j := 3) 3 [0, 5, 6] [(0, pt m 0), (5, .int .i64 0), (6, .int .i64 (-1))] (by kernel_rfl) rfl ?_
     refine GL.round rfl ?_
     refine G.seqK fun K473 hK474 => ?_
     refine G.seqK fun K475 hK476 => ?_
     refine G.region ?_
     refine GL.run (j := 2) 2 [0, 5, 6, 11] [(0, pt m 0), (5, .int .i64 0), (6, .int .i64 (-1)), (11, .bool false)] (by kernel_rfl) rfl ?_
     refine GL.k rfl hK476 (fun _ _ h => h) ?_
     refine G.no rfl ?_
     refine G.exitK hK6 (fun _ _ h => h) ?_
     refine G.seqK fun K477 hK478 => ?_
     refine G.seqK fun K479 hK480 => ?_
     refine G.region ?_
     refine GL.run (j := 2) 2 [0, 5, 29] [(0, pt m 0), (5, .int .i64 0), (29, .bool false)] (by kernel_rfl) rfl ?_
     refine GL.k rfl hK480 (fun _ _ h => h) ?_
     refine G.no rfl ?_
     refine G.skipK hK478 (fun _ _ h => h) ?_
     refine G.seqJ (X := Unit) (fun _ => [(0, pt m 0), (5, .int .i64 0)]) (fun _ w_ => (True) ∧ Hp w S [.blk m [.slice q0 a0.l.length k0, .slice q1 a1.l.length k1, .slice q2 a2.l.length k2, .int .i64 (a0.p : Int), .int .i64 (a1.p : Int), .int .i64 (a2.p : Int), .bool cl] 39, .que q0 a0.l.length k0 9 (mq a0.l), .que q1 a1.l.length k1 9 (mq a1.l), .que q2 a2.l.length k2 9 (mq a2.l)] w_) (fun J481 K482 hK483 => ?_) ?_
     · skip
       refine G.seqK fun K484 hK485 => ?_
       refine G.region ?_
       refine GL.run (j := 1) 1 [0, 5, 7] [(0, pt m 0), (5, .int .i64 0), (7, .int .i64 2)] (by kernel_rfl) rfl ?_
       refine GL.k rfl hK485 (fun _ _ h => h) ?_
       refine G.block ?_
       refine G.unroll 3 ?_
       refine G.seqK fun K486 hK487 => ?_
       refine G.seqK fun K488 hK489 => ?_
       refine G.region ?_
       refine GL.run (j := 2) 2 [0, 5, 7, 31] [(0, pt m 0), (5, .int .i64 0), (7, .int .i64 2), (31, .bool true)] (by kernel_rfl) rfl ?_
       refine GL.k rfl hK489 (fun _ _ h => h) ?_
       refine G.yes rfl ?_
       refine G.skipK hK487 (fun _ _ h => h) ?_
       refine G.seqK fun K490 hK491 => ?_
       refine G.block ?_
       refine G.seqK fun K492 hK493 => ?_
       refine G.region ?_
       refine GL.run (j := 5) 5 [0, 5, 7, 38] [(0, pt m 0), (5, .int .i64 0), (7, .int .i64 2), (38, pt m 5)] (by kernel_rfl) rfl ?_
       refine GL.sem (j := 6) (H.ld (o := 5) (ty := 3) (v := .int .i64 (a2.p : Int)) 0 rfl (by kernel_rfl) rfl) [0, 5, 7, 39] [(0, pt m 0), (5, .int .i64 0), (7, .int .i64 2), (39, .int .i64 (a2.p : Int))] (by kernel_rfl) (by kernel_rfl) rfl ?_
       refine GL.run (j := 7) 1 [0, 5, 7, 40] [(0, pt m 0), (5, .int .i64 0), (7, .int .i64 2), (40, .bool (decide (4 ≤ (a2.p : Int))))] (by kernel_rfl) rfl ?_
       refine GL.k rfl hK493 (fun _ _ h => h) ?_
       cases hb494 : (decide (4 ≤ (a2.p : Int)))
       · skip
         have hb494f := of_decide_eq_false hb494
         refine G.no rfl ?_
         refine G.skipK hK491 (fun _ _ h => h) ?_
         refine G.region ?_
         refine GL.run (j := 3) 3 [0, 5, 7] [(0, pt m 0), (5, .int .i64 0), (7, .int .i64 1)] (by kernel_rfl) rfl ?_
         refine GL.round rfl ?_
         refine G.seqK fun K495 hK496 => ?_
         refine G.seqK fun K497 hK498 => ?_
         refine G.region ?_
         refine GL.run (j := 2) 2 [0, 5, 7, 31] [(0, pt m 0), (5, .int .i64 0), (7, .int .i64 1), (31, .bool true)] (by kernel_rfl) rfl ?_
         refine GL.k rfl hK498 (fun _ _ h => h) ?_
         refine G.yes rfl ?_
         refine G.skipK hK496 (fun _ _ h => h) ?_
         refine G.seqK fun K499 hK500 => ?_
         refine G.block ?_
         refine G.seqK fun K501 hK502 => ?_
         refine G.region ?_
         refine GL.run (j := 5) 5 [0, 5, 7, 38] [(0, pt m 0), (5, .int .i64 0), (7, .int .i64 1), (38, pt m 4)] (by kernel_rfl) rfl ?_
         refine GL.sem (j := 6) (H.ld (o := 4) (ty := 3) (v := .int .i64 (a1.p : Int)) 0 rfl (by kernel_rfl) rfl) [0, 5, 7, 39] [(0, pt m 0), (5, .int .i64 0), (7, .int .i64 1), (39, .int .i64 (a1.p : Int))] (by kernel_rfl) (by kernel_rfl) rfl ?_
         refine GL.run (j := 7) 1 [0, 5, 7, 40] [(0, pt m 0), (5, .int .i64 0), (7, .int .i64 1), (40, .bool (decide (4 ≤ (a1.p : Int))))] (by kernel_rfl) rfl ?_
         refine GL.k rfl hK502 (fun _ _ h => h) ?_
         cases hb503 : (decide (4 ≤ (a1.p : Int)))
         · skip
           have hb503f := of_decide_eq_false hb503
           refine G.no rfl ?_
           refine G.skipK hK500 (fun _ _ h => h) ?_
           refine G.region ?_
           refine GL.run (j := 3) 3 [0, 5, 7] [(0, pt m 0), (5, .int .i64 0), (7, .int .i64 0)] (by kernel_rfl) rfl ?_
           refine GL.round rfl ?_
           refine G.seqK fun K504 hK505 => ?_
           refine G.seqK fun K506 hK507 => ?_
           refine G.region ?_
           refine GL.run (j := 2) 2 [0, 5, 7, 31] [(0, pt m 0), (5, .int .i64 0), (7, .int .i64 0), (31, .bool true)] (by kernel_rfl) rfl ?_
           refine GL.k rfl hK507 (fun _ _ h => h) ?_
           refine G.yes rfl ?_
           refine G.skipK hK505 (fun _ _ h => h) ?_
           refine G.seqK fun K508 hK509 => ?_
           refine G.block ?_
           refine G.seqK fun K510 hK511 => ?_
           refine G.region ?_
           refine GL.run (j := 5) 5 [0, 5, 7, 38] [(0, pt m 0), (5, .int .i64 0), (7, .int .i64 0), (38, pt m 3)] (by kernel_rfl) rfl ?_
           refine GL.sem (j := 6) (H.ld (o := 3) (ty := 3) (v := .int .i64 (a0.p : Int)) 0 rfl (by kernel_rfl) rfl) [0, 5, 7, 39] [(0, pt m 0), (5, .int .i64 0), (7, .int .i64 0), (39, .int .i64 (a0.p : Int))] (by kernel_rfl) (by kernel_rfl) rfl ?_
           refine GL.run (j := 7) 1 [0, 5, 7, 40] [(0, pt m 0), (5, .int .i64 0), (7, .int .i64 0), (40, .bool (decide (4 ≤ (a0.p : Int))))] (by kernel_rfl) rfl ?_
           refine GL.k rfl hK511 (fun _ _ h => h) ?_
           cases hb512 : (decide (4 ≤ (a0.p : Int)))
           · skip
             have hb512f := of_decide_eq_false hb512
             refine G.no rfl ?_
             refine G.skipK hK509 (fun _ _ h => h) ?_
             refine G.region ?_
             refine GL.run (j := 3) 3 [0, 5, 7] [(0, pt m 0), (5, .int .i64 0), (7, .int .i64 (-1))] (by kernel_rfl) rfl ?_
             refine GL.round rfl ?_
             refine G.seqK fun K513 hK514 => ?_
             refine G.seqK fun K515 hK516 => ?_
             refine G.region ?_
             refine GL.run (j := 2) 2 [0, 5, 7, 31] [(0, pt m 0), (5, .int .i64 0), (7, .int .i64 (-1)), (31, .bool false)] (by kernel_rfl) rfl ?_
             refine GL.k rfl hK516 (fun _ _ h => h) ?_
             refine G.no rfl ?_
             refine G.exitK hK483 (fun _ _ h => h) ?_
             have e0 : tkN a0 a1 a2 = 0 := by
               unfold tkN
               repeat' split
               all_goals omega
             refine G.fit [0, 5] (M' := [(0, pt m 0), (5, .int .i64 0)]) (by kernel_rfl) ?_
             exact J481 () _ ⟨trivial, H⟩
           · skip
             have hb512f := of_decide_eq_true hb512
             refine G.yes rfl ?_
             refine G.region ?_
             refine GL.run (j := 2) 2 [0, 5, 7] [(0, pt m 0), (5, .int .i64 0), (7, .int .i64 0)] (by kernel_rfl) rfl ?_
             refine GL.k rfl hK509 (fun _ _ h => h) ?_
             refine G.region ?_
             refine GL.run (j := 3) 3 [0, 5, 7] [(0, pt m 0), (5, .int .i64 0), (7, .int .i64 (-1))] (by kernel_rfl) rfl ?_
             refine GL.round rfl ?_
             refine G.seqK fun K517 hK518 => ?_
             refine G.seqK fun K519 hK520 => ?_
             refine G.region ?_
             refine GL.run (j := 2) 2 [0, 5, 7, 31] [(0, pt m 0), (5, .int .i64 0), (7, .int .i64 (-1)), (31, .bool false)] (by kernel_rfl) rfl ?_
             refine GL.k rfl hK520 (fun _ _ h => h) ?_
             refine G.no rfl ?_
             refine G.exitK hK483 (fun _ _ h => h) ?_
             have e0 : tkN a0 a1 a2 = 0 := by
               unfold tkN
               repeat' split
               all_goals omega
             refine G.fit [0, 5] (M' := [(0, pt m 0), (5, .int .i64 0)]) (by kernel_rfl) ?_
             exact J481 () _ ⟨trivial, H⟩
         · skip
           have hb503f := of_decide_eq_true hb503
           refine G.yes rfl ?_
           refine G.region ?_
           refine GL.run (j := 2) 2 [0, 5, 7] [(0, pt m 0), (5, .int .i64 1), (7, .int .i64 1)] (by kernel_rfl) rfl ?_
           refine GL.k rfl hK500 (fun _ _ h => h) ?_
           refine G.region ?_
           refine GL.run (j := 3) 3 [0, 5, 7] [(0, pt m 0), (5, .int .i64 1), (7, .int .i64 0)] (by kernel_rfl) rfl ?_
           refine GL.round rfl ?_
           refine G.seqK fun K521 hK522 => ?_
           refine G.seqK fun K523 hK524 => ?_
           refine G.region ?_
           refine GL.run (j := 2) 2 [0, 5, 7, 31] [(0, pt m 0), (5, .int .i64 1), (7, .int .i64 0), (31, .bool true)] (by kernel_rfl) rfl ?_
           refine GL.k rfl hK524 (fun _ _ h => h) ?_
           refine G.yes rfl ?_
           refine G.skipK hK522 (fun _ _ h => h) ?_
           refine G.seqK fun K525 hK526 => ?_
           refine G.block ?_
           refine G.seqK fun K527 hK528 => ?_
           refine G.region ?_
           refine GL.run (j := 5) 5 [0, 5, 7, 38] [(0, pt m 0), (5, .int .i64 1), (7, .int .i64 0), (38, pt m 3)] (by kernel_rfl) rfl ?_
           refine GL.sem (j := 6) (H.ld (o := 3) (ty := 3) (v := .int .i64 (a0.p : Int)) 0 rfl (by kernel_rfl) rfl) [0, 5, 7, 39] [(0, pt m 0), (5, .int .i64 1), (7, .int .i64 0), (39, .int .i64 (a0.p : Int))] (by kernel_rfl) (by kernel_rfl) rfl ?_
           refine GL.run (j := 7) 1 [0, 5, 7, 40] [(0, pt m 0), (5, .int .i64 1), (7, .int .i64 0), (40, .bool (decide (4 ≤ (a0.p : Int))))] (by kernel_rfl) rfl ?_
           refine GL.k rfl hK528 (fun _ _ h => h) ?_
           cases hb529 : (decide (4 ≤ (a0.p : Int)))
           · skip
             have hb529f := of_decide_eq_false hb529
             refine G.no rfl ?_
             refine G.skipK hK526 (fun _ _ h => h) ?_
             refine G.region ?_
             refine GL.run (j := 3) 3 [0, 5, 7] [(0, pt m 0), (5, .int .i64 1), (7, .int .i64 (-1))] (by kernel_rfl) rfl ?_
             refine GL.round rfl ?_
             refine G.seqK fun K530 hK531 => ?_
             refine G.seqK fun K532 hK533 => ?_
             refine G.region ?_
             refine GL.run (j := 2) 2 [0, 5, 7, 31] [(0, pt m 0), (5, .int .i64 1), (7, .int .i64 (-1)), (31, .bool false)] (by kernel_rfl) rfl ?_
             refine GL.k rfl hK533 (fun _ _ h => h) ?_
             refine G.no rfl ?_
             refine G.exitK hK483 (fun _ _ h => h) ?_
             have e0 : tkN a0 a1 a2 = 1 := by
               unfold tkN
               repeat' split
               all_goals omega
             exact absurd (htk.symm.trans e0) (by decide)
           · skip
             have hb529f := of_decide_eq_true hb529
             refine G.yes rfl ?_
             refine G.region ?_
             refine GL.run (j := 2) 2 [0, 5, 7] [(0, pt m 0), (5, .int .i64 0), (7, .int .i64 0)] (by kernel_rfl) rfl ?_
             refine GL.k rfl hK526 (fun _ _ h => h) ?_
             refine G.region ?_
             refine GL.run (j := 3) 3 [0, 5, 7] [(0, pt m 0), (5, .int .i64 0), (7, .int .i64 (-1))] (by kernel_rfl) rfl ?_
             refine GL.round rfl ?_
             refine G.seqK fun K534 hK535 => ?_
             refine G.seqK fun K536 hK537 => ?_
             refine G.region ?_
             refine GL.run (j := 2) 2 [0, 5, 7, 31] [(0, pt m 0), (5, .int .i64 0), (7, .int .i64 (-1)), (31, .bool false)] (by kernel_rfl) rfl ?_
             refine GL.k rfl hK537 (fun _ _ h => h) ?_
             refine G.no rfl ?_
             refine G.exitK hK483 (fun _ _ h => h) ?_
             have e0 : tkN a0 a1 a2 = 0 := by
               unfold tkN
               repeat' split
               all_goals omega
             refine G.fit [0, 5] (M' := [(0, pt m 0), (5, .int .i64 0)]) (by kernel_rfl) ?_
             exact J481 () _ ⟨trivial, H⟩
       · skip
         have hb494f := of_decide_eq_true hb494
         refine G.yes rfl ?_
         refine G.region ?_
         refine GL.run (j := 2) 2 [0, 5, 7] [(0, pt m 0), (5, .int .i64 2), (7, .int .i64 2)] (by kernel_rfl) rfl ?_
         refine GL.k rfl hK491 (fun _ _ h => h) ?_
         refine G.region ?_
         refine GL.run (j := 3) 3 [0, 5, 7] [(0, pt m 0), (5, .int .i64 2), (7, .int .i64 1)] (by kernel_rfl) rfl ?_
         refine GL.round rfl ?_
         refine G.seqK fun K538 hK539 => ?_
         refine G.seqK fun K540 hK541 => ?_
         refine G.region ?_
         refine GL.run (j := 2) 2 [0, 5, 7, 31] [(0, pt m 0), (5, .int .i64 2), (7, .int .i64 1), (31, .bool true)] (by kernel_rfl) rfl ?_
         refine GL.k rfl hK541 (fun _ _ h => h) ?_
         refine G.yes rfl ?_
         refine G.skipK hK539 (fun _ _ h => h) ?_
         refine G.seqK fun K542 hK543 => ?_
         refine G.block ?_
         refine G.seqK fun K544 hK545 => ?_
         refine G.region ?_
         refine GL.run (j := 5) 5 [0, 5, 7, 38] [(0, pt m 0), (5, .int .i64 2), (7, .int .i64 1), (38, pt m 4)] (by kernel_rfl) rfl ?_
         refine GL.sem (j := 6) (H.ld (o := 4) (ty := 3) (v := .int .i64 (a1.p : Int)) 0 rfl (by kernel_rfl) rfl) [0, 5, 7, 39] [(0, pt m 0), (5, .int .i64 2), (7, .int .i64 1), (39, .int .i64 (a1.p : Int))] (by kernel_rfl) (by kernel_rfl) rfl ?_
         refine GL.run (j := 7) 1 [0, 5, 7, 40] [(0, pt m 0), (5, .int .i64 2), (7, .int .i64 1), (40, .bool (decide (4 ≤ (a1.p : Int))))] (by kernel_rfl) rfl ?_
         refine GL.k rfl hK545 (fun _ _ h => h) ?_
         cases hb546 : (decide (4 ≤ (a1.p : Int)))
         · skip
           have hb546f := of_decide_eq_false hb546
           refine G.no rfl ?_
           refine G.skipK hK543 (fun _ _ h => h) ?_
           refine G.region ?_
           refine GL.run (j := 3) 3 [0, 5, 7] [(0, pt m 0), (5, .int .i64 2), (7, .int .i64 0)] (by kernel_rfl) rfl ?_
           refine GL.round rfl ?_
           refine G.seqK fun K547 hK548 => ?_
           refine G.seqK fun K549 hK550 => ?_
           refine G.region ?_
           refine GL.run (j := 2) 2 [0, 5, 7, 31] [(0, pt m 0), (5, .int .i64 2), (7, .int .i64 0), (31, .bool true)] (by kernel_rfl) rfl ?_
           refine GL.k rfl hK550 (fun _ _ h => h) ?_
           refine G.yes rfl ?_
           refine G.skipK hK548 (fun _ _ h => h) ?_
           refine G.seqK fun K551 hK552 => ?_
           refine G.block ?_
           refine G.seqK fun K553 hK554 => ?_
           refine G.region ?_
           refine GL.run (j := 5) 5 [0, 5, 7, 38] [(0, pt m 0), (5, .int .i64 2), (7, .int .i64 0), (38, pt m 3)] (by kernel_rfl) rfl ?_
           refine GL.sem (j := 6) (H.ld (o := 3) (ty := 3) (v := .int .i64 (a0.p : Int)) 0 rfl (by kernel_rfl) rfl) [0, 5, 7, 39] [(0, pt m 0), (5, .int .i64 2), (7, .int .i64 0), (39, .int .i64 (a0.p : Int))] (by kernel_rfl) (by kernel_rfl) rfl ?_
           refine GL.run (j := 7) 1 [0, 5, 7, 40] [(0, pt m 0), (5, .int .i64 2), (7, .int .i64 0), (40, .bool (decide (4 ≤ (a0.p : Int))))] (by kernel_rfl) rfl ?_
           refine GL.k rfl hK554 (fun _ _ h => h) ?_
           cases hb555 : (decide (4 ≤ (a0.p : Int)))
           · skip
             have hb555f := of_decide_eq_false hb555
             refine G.no rfl ?_
             refine G.skipK hK552 (fun _ _ h => h) ?_
             refine G.region ?_
             refine GL.run (j := 3) 3 [0, 5, 7] [(0, pt m 0), (5, .int .i64 2), (7, .int .i64 (-1))] (by kernel_rfl) rfl ?_
             refine GL.round rfl ?_
             refine G.seqK fun K556 hK557 => ?_
             refine G.seqK fun K558 hK559 => ?_
             refine G.region ?_
             refine GL.run (j := 2) 2 [0, 5, 7, 31] [(0, pt m 0), (5, .int .i64 2), (7, .int .i64 (-1)), (31, .bool false)] (by kernel_rfl) rfl ?_
             refine GL.k rfl hK559 (fun _ _ h => h) ?_
             refine G.no rfl ?_
             refine G.exitK hK483 (fun _ _ h => h) ?_
             have e0 : tkN a0 a1 a2 = 2 := by
               unfold tkN
               repeat' split
               all_goals omega
             exact absurd (htk.symm.trans e0) (by decide)
           · skip
             have hb555f := of_decide_eq_true hb555
             refine G.yes rfl ?_
             refine G.region ?_
             refine GL.run (j := 2) 2 [0, 5, 7] [(0, pt m 0), (5, .int .i64 0), (7, .int .i64 0)] (by kernel_rfl) rfl ?_
             refine GL.k rfl hK552 (fun _ _ h => h) ?_
             refine G.region ?_
             refine GL.run (j := 3) 3 [0, 5, 7] [(0, pt m 0), (5, .int .i64 0), (7, .int .i64 (-1))] (by kernel_rfl) rfl ?_
             refine GL.round rfl ?_
             refine G.seqK fun K560 hK561 => ?_
             refine G.seqK fun K562 hK563 => ?_
             refine G.region ?_
             refine GL.run (j := 2) 2 [0, 5, 7, 31] [(0, pt m 0), (5, .int .i64 0), (7, .int .i64 (-1)), (31, .bool false)] (by kernel_rfl) rfl ?_
             refine GL.k rfl hK563 (fun _ _ h => h) ?_
             refine G.no rfl ?_
             refine G.exitK hK483 (fun _ _ h => h) ?_
             have e0 : tkN a0 a1 a2 = 0 := by
               unfold tkN
               repeat' split
               all_goals omega
             refine G.fit [0, 5] (M' := [(0, pt m 0), (5, .int .i64 0)]) (by kernel_rfl) ?_
             exact J481 () _ ⟨trivial, H⟩
         · skip
           have hb546f := of_decide_eq_true hb546
           refine G.yes rfl ?_
           refine G.region ?_
           refine GL.run (j := 2) 2 [0, 5, 7] [(0, pt m 0), (5, .int .i64 1), (7, .int .i64 1)] (by kernel_rfl) rfl ?_
           refine GL.k rfl hK543 (fun _ _ h => h) ?_
           refine G.region ?_
           refine GL.run (j := 3) 3 [0, 5, 7] [(0, pt m 0), (5, .int .i64 1), (7, .int .i64 0)] (by kernel_rfl) rfl ?_
           refine GL.round rfl ?_
           refine G.seqK fun K564 hK565 => ?_
           refine G.seqK fun K566 hK567 => ?_
           refine G.region ?_
           refine GL.run (j := 2) 2 [0, 5, 7, 31] [(0, pt m 0), (5, .int .i64 1), (7, .int .i64 0), (31, .bool true)] (by kernel_rfl) rfl ?_
           refine GL.k rfl hK567 (fun _ _ h => h) ?_
           refine G.yes rfl ?_
           refine G.skipK hK565 (fun _ _ h => h) ?_
           refine G.seqK fun K568 hK569 => ?_
           refine G.block ?_
           refine G.seqK fun K570 hK571 => ?_
           refine G.region ?_
           refine GL.run (j := 5) 5 [0, 5, 7, 38] [(0, pt m 0), (5, .int .i64 1), (7, .int .i64 0), (38, pt m 3)] (by kernel_rfl) rfl ?_
           refine GL.sem (j := 6) (H.ld (o := 3) (ty := 3) (v := .int .i64 (a0.p : Int)) 0 rfl (by kernel_rfl) rfl) [0, 5, 7, 39] [(0, pt m 0), (5, .int .i64 1), (7, .int .i64 0), (39, .int .i64 (a0.p : Int))] (by kernel_rfl) (by kernel_rfl) rfl ?_
           refine GL.run (j := 7) 1 [0, 5, 7, 40] [(0, pt m 0), (5, .int .i64 1), (7, .int .i64 0), (40, .bool (decide (4 ≤ (a0.p : Int))))] (by kernel_rfl) rfl ?_
           refine GL.k rfl hK571 (fun _ _ h => h) ?_
           cases hb572 : (decide (4 ≤ (a0.p : Int)))
           · skip
             have hb572f := of_decide_eq_false hb572
             refine G.no rfl ?_
             refine G.skipK hK569 (fun _ _ h => h) ?_
             refine G.region ?_
             refine GL.run (j := 3) 3 [0, 5, 7] [(0, pt m 0), (5, .int .i64 1), (7, .int .i64 (-1))] (by kernel_rfl) rfl ?_
             refine GL.round rfl ?_
             refine G.seqK fun K573 hK574 => ?_
             refine G.seqK fun K575 hK576 => ?_
             refine G.region ?_
             refine GL.run (j := 2) 2 [0, 5, 7, 31] [(0, pt m 0), (5, .int .i64 1), (7, .int .i64 (-1)), (31, .bool false)] (by kernel_rfl) rfl ?_
             refine GL.k rfl hK576 (fun _ _ h => h) ?_
             refine G.no rfl ?_
             refine G.exitK hK483 (fun _ _ h => h) ?_
             have e0 : tkN a0 a1 a2 = 1 := by
               unfold tkN
               repeat' split
               all_goals omega
             exact absurd (htk.symm.trans e0) (by decide)
           · skip
             have hb572f := of_decide_eq_true hb572
             refine G.yes rfl ?_
             refine G.region ?_
             refine GL.run (j := 2) 2 [0, 5, 7] [(0, pt m 0), (5, .int .i64 0), (7, .int .i64 0)] (by kernel_rfl) rfl ?_
             refine GL.k rfl hK569 (fun _ _ h => h) ?_
             refine G.region ?_
             refine GL.run (j := 3) 3 [0, 5, 7] [(0, pt m 0), (5, .int .i64 0), (7, .int .i64 (-1))] (by kernel_rfl) rfl ?_
             refine GL.round rfl ?_
             refine G.seqK fun K577 hK578 => ?_
             refine G.seqK fun K579 hK580 => ?_
             refine G.region ?_
             refine GL.run (j := 2) 2 [0, 5, 7, 31] [(0, pt m 0), (5, .int .i64 0), (7, .int .i64 (-1)), (31, .bool false)] (by kernel_rfl) rfl ?_
             refine GL.k rfl hK580 (fun _ _ h => h) ?_
             refine G.no rfl ?_
             refine G.exitK hK483 (fun _ _ h => h) ?_
             have e0 : tkN a0 a1 a2 = 0 := by
               unfold tkN
               repeat' split
               all_goals omega
             refine G.fit [0, 5] (M' := [(0, pt m 0), (5, .int .i64 0)]) (by kernel_rfl) ?_
             exact J481 () _ ⟨trivial, H⟩
     · skip
       rintro _ w581 ⟨hi582, H583⟩
       refine G.eq (M' := [(0, pt m 0), (5, .int .i64 0)]) rfl ?_
       have H583 : Hp w S [.blk m [.slice q0 a0.l.length k0, .slice q1 a1.l.length k1, .slice q2 a2.l.length k2, .int .i64 (a0.p : Int), .int .i64 (a1.p : Int), .int .i64 (a2.p : Int), .bool cl] 39, .que q0 a0.l.length k0 9 (mq a0.l), .que q1 a1.l.length k1 9 (mq a1.l), .que q2 a2.l.length k2 9 (mq a2.l)] w581 := H583
       refine G.seqK fun K584 hK585 => ?_
       refine G.seqK fun K586 hK587 => ?_
       refine G.region ?_
       refine GL.run (j := 1) 1 [0, 5, 42] [(0, pt m 0), (5, .int .i64 0), (42, .int .i64 0)] (by kernel_rfl) rfl ?_
       refine GL.k rfl hK587 (fun _ _ h => h) ?_
       refine G.block ?_
       refine G.unroll 3 ?_
       refine G.seqK fun K588 hK589 => ?_
       refine G.region ?_
       refine GL.run (j := 1) 1 [0, 5, 42, 43] [(0, pt m 0), (5, .int .i64 0), (42, .int .i64 0), (43, .bool true)] (by kernel_rfl) rfl ?_
       refine GL.k rfl hK589 (fun _ _ h => h) ?_
       refine G.seqK fun K590 hK591 => ?_
       refine G.yes rfl ?_
       refine G.skipK hK591 (fun _ _ h => h) ?_
       refine G.seqK fun K592 hK593 => ?_
       refine G.block ?_
       refine G.seqK fun K594 hK595 => ?_
       refine G.region ?_
       refine GL.run (j := 2) 2 [0, 5, 8, 42] [(0, pt m 0), (5, .int .i64 0), (8, .int .i64 0), (42, .int .i64 0)] (by kernel_rfl) rfl ?_
       refine GL.k rfl hK595 (fun _ _ h => h) ?_
       refine G.seqK fun K596 hK597 => ?_
       refine G.region ?_
       refine GL.run (j := 5) 5 [0, 5, 8, 42, 49] [(0, pt m 0), (5, .int .i64 0), (8, .int .i64 0), (42, .int .i64 0), (49, pt m 0)] (by kernel_rfl) rfl ?_
       refine GL.sem (j := 6) (H583.ld (o := 0) (ty := 36) (v := .slice q0 a0.l.length k0) 0 rfl (by kernel_rfl) rfl) [0, 5, 8, 42, 50] [(0, pt m 0), (5, .int .i64 0), (8, .int .i64 0), (42, .int .i64 0), (50, .slice q0 a0.l.length k0)] (by kernel_rfl) (by kernel_rfl) rfl ?_
       refine GL.run (j := 8) 2 [0, 5, 8, 42, 52] [(0, pt m 0), (5, .int .i64 0), (8, .int .i64 0), (42, .int .i64 0), (52, .bool (decide (0 < (a0.l.length : Int))))] (by kernel_rfl) rfl ?_
       refine GL.k rfl hK597 (fun _ _ h => h) ?_
       have hb598 : (decide (0 < (a0.l.length : Int))) = true := by assumption
       rw [hb598]
       refine G.yes rfl ?_
       refine G.tail 10 (by kernel_rfl) (by kernel_rfl) ?_
       have H599 := H583.drew
       generalize ({ w581 with drawn := w581.drawn + 1 } : World) = w600 at H599 ⊢
       refine GS.run (j := 5) 5 [0, 5, 42, 53, 54, 57] [(0, pt m 0), (5, .int .i64 0), (42, .int .i64 0), (53, pt m 0), (54, .int .i64 0), (57, pt m 3)] (by kernel_rfl) rfl rfl ?_
       refine GS.sem (j := 6) (H599.ld (o := 3) (ty := 3) (v := .int .i64 (a0.p : Int)) 0 rfl (by kernel_rfl) rfl) [0, 5, 42, 53, 54, 58] [(0, pt m 0), (5, .int .i64 0), (42, .int .i64 0), (53, pt m 0), (54, .int .i64 0), (58, .int .i64 (a0.p : Int))] (by kernel_rfl) (by kernel_rfl) rfl rfl ?_
       refine GS.run (j := 10) 4 [0, 5, 42, 59, 62] [(0, pt m 0), (5, .int .i64 0), (42, .int .i64 0), (59, .int .i64 (IntKind.i64.wrap ((a0.p : Int) + 1))), (62, pt m 3)] (by kernel_rfl) rfl rfl ?_
       have e601 : (IntKind.i64.wrap ((a0.p : Int) + 1)) = ((a0.p + 1 : Nat) : Int) := by rw [in_i64 (by omega)]; omega
       refine GS.eq (M' := [(0, pt m 0), (5, .int .i64 0), (42, .int .i64 0), (59, .int .i64 ((a0.p + 1 : Nat) : Int)), (62, pt m 3)]) (by rw [e601]) ?_
       clear e601
       refine GS.tail rfl ?_
       obtain ⟨w602, r603, H604⟩ := H599.st (P := Try.prog) (o := 3) (ty := 3) (v := .int .i64 ((a0.p + 1 : Nat) : Int)) 0 rfl (by kernel_rfl) (by simp) rfl
       have H604 : Hp w S [.blk m [.slice q0 a0.l.length k0, .slice q1 a1.l.length k1, .slice q2 a2.l.length k2, .int .i64 ((a0.p + 1 : Nat) : Int), .int .i64 (a1.p : Int), .int .i64 (a2.p : Int), .bool cl] 39, .que q0 a0.l.length k0 9 (mq a0.l), .que q1 a1.l.length k1 9 (mq a1.l), .que q2 a2.l.length k2 9 (mq a2.l)] w602 := H604
       refine GL.semU (j := 11) r603 [0, 5, 42] [(0, pt m 0), (5, .int .i64 0), (42, .int .i64 0)] (by kernel_rfl) rfl rfl rfl ?_
       refine GL.k rfl hK593 (fun _ _ h => h) ?_
       refine G.region ?_
       refine GL.run (j := 2) 2 [0, 5, 42] [(0, pt m 0), (5, .int .i64 0), (42, .int .i64 1)] (by kernel_rfl) rfl ?_
       refine GL.round rfl ?_
       refine G.seqK fun K605 hK606 => ?_
       refine G.region ?_
       refine GL.run (j := 1) 1 [0, 5, 42, 43] [(0, pt m 0), (5, .int .i64 0), (42, .int .i64 1), (43, .bool true)] (by kernel_rfl) rfl ?_
       refine GL.k rfl hK606 (fun _ _ h => h) ?_
       refine G.seqK fun K607 hK608 => ?_
       refine G.yes rfl ?_
       refine G.skipK hK608 (fun _ _ h => h) ?_
       refine G.seqK fun K609 hK610 => ?_
       refine G.block ?_
       refine G.seqK fun K611 hK612 => ?_
       refine G.region ?_
       refine GL.run (j := 2) 2 [0, 5, 8, 42] [(0, pt m 0), (5, .int .i64 0), (8, .int .i64 1), (42, .int .i64 1)] (by kernel_rfl) rfl ?_
       refine GL.k rfl hK612 (fun _ _ h => h) ?_
       refine G.seqK fun K613 hK614 => ?_
       refine G.region ?_
       refine GL.run (j := 5) 5 [0, 5, 8, 42, 49] [(0, pt m 0), (5, .int .i64 0), (8, .int .i64 1), (42, .int .i64 1), (49, pt m 1)] (by kernel_rfl) rfl ?_
       refine GL.sem (j := 6) (H604.ld (o := 1) (ty := 36) (v := .slice q1 a1.l.length k1) 0 rfl (by kernel_rfl) rfl) [0, 5, 8, 42, 50] [(0, pt m 0), (5, .int .i64 0), (8, .int .i64 1), (42, .int .i64 1), (50, .slice q1 a1.l.length k1)] (by kernel_rfl) (by kernel_rfl) rfl ?_
       refine GL.run (j := 8) 2 [0, 5, 8, 42, 52] [(0, pt m 0), (5, .int .i64 0), (8, .int .i64 1), (42, .int .i64 1), (52, .bool (decide (0 < (a1.l.length : Int))))] (by kernel_rfl) rfl ?_
       refine GL.k rfl hK614 (fun _ _ h => h) ?_
       have hb615 : (decide (0 < (a1.l.length : Int))) = true := by assumption
       rw [hb615]
       refine G.yes rfl ?_
       refine G.tail 10 (by kernel_rfl) (by kernel_rfl) ?_
       have H616 := H604.drew
       generalize ({ w602 with drawn := w602.drawn + 1 } : World) = w617 at H616 ⊢
       refine GS.run (j := 5) 5 [0, 5, 42, 53, 54, 57] [(0, pt m 0), (5, .int .i64 0), (42, .int .i64 1), (53, pt m 0), (54, .int .i64 1), (57, pt m 4)] (by kernel_rfl) rfl rfl ?_
       refine GS.sem (j := 6) (H616.ld (o := 4) (ty := 3) (v := .int .i64 (a1.p : Int)) 0 rfl (by kernel_rfl) rfl) [0, 5, 42, 53, 54, 58] [(0, pt m 0), (5, .int .i64 0), (42, .int .i64 1), (53, pt m 0), (54, .int .i64 1), (58, .int .i64 (a1.p : Int))] (by kernel_rfl) (by kernel_rfl) rfl rfl ?_
       refine GS.run (j := 10) 4 [0, 5, 42, 59, 62] [(0, pt m 0), (5, .int .i64 0), (42, .int .i64 1), (59, .int .i64 (IntKind.i64.wrap ((a1.p : Int) + 1))), (62, pt m 4)] (by kernel_rfl) rfl rfl ?_
       have e618 : (IntKind.i64.wrap ((a1.p : Int) + 1)) = ((a1.p + 1 : Nat) : Int) := by rw [in_i64 (by omega)]; omega
       refine GS.eq (M' := [(0, pt m 0), (5, .int .i64 0), (42, .int .i64 1), (59, .int .i64 ((a1.p + 1 : Nat) : Int)), (62, pt m 4)]) (by rw [e618]) ?_
       clear e618
       refine GS.tail rfl ?_
       obtain ⟨w619, r620, H621⟩ := H616.st (P := Try.prog) (o := 4) (ty := 3) (v := .int .i64 ((a1.p + 1 : Nat) : Int)) 0 rfl (by kernel_rfl) (by simp) rfl
       have H621 : Hp w S [.blk m [.slice q0 a0.l.length k0, .slice q1 a1.l.length k1, .slice q2 a2.l.length k2, .int .i64 ((a0.p + 1 : Nat) : Int), .int .i64 ((a1.p + 1 : Nat) : Int), .int .i64 (a2.p : Int), .bool cl] 39, .que q0 a0.l.length k0 9 (mq a0.l), .que q1 a1.l.length k1 9 (mq a1.l), .que q2 a2.l.length k2 9 (mq a2.l)] w619 := H621
       refine GL.semU (j := 11) r620 [0, 5, 42] [(0, pt m 0), (5, .int .i64 0), (42, .int .i64 1)] (by kernel_rfl) rfl rfl rfl ?_
       refine GL.k rfl hK610 (fun _ _ h => h) ?_
       refine G.region ?_
       refine GL.run (j := 2) 2 [0, 5, 42] [(0, pt m 0), (5, .int .i64 0), (42, .int .i64 2)] (by kernel_rfl) rfl ?_
       refine GL.round rfl ?_
       refine G.seqK fun K622 hK623 => ?_
       refine G.region ?_
       refine GL.run (j := 1) 1 [0, 5, 42, 43] [(0, pt m 0), (5, .int .i64 0), (42, .int .i64 2), (43, .bool true)] (by kernel_rfl) rfl ?_
       refine GL.k rfl hK623 (fun _ _ h => h) ?_
       refine G.seqK fun K624 hK625 => ?_
       refine G.yes rfl ?_
       refine G.skipK hK625 (fun _ _ h => h) ?_
       refine G.seqK fun K626 hK627 => ?_
       refine G.block ?_
       refine G.seqK fun K628 hK629 => ?_
       refine G.region ?_
       refine GL.run (j := 2) 2 [0, 5, 8, 42] [(0, pt m 0), (5, .int .i64 0), (8, .int .i64 2), (42, .int .i64 2)] (by kernel_rfl) rfl ?_
       refine GL.k rfl hK629 (fun _ _ h => h) ?_
       refine G.seqK fun K630 hK631 => ?_
       refine G.region ?_
       refine GL.run (j := 5) 5 [0, 5, 8, 42, 49] [(0, pt m 0), (5, .int .i64 0), (8, .int .i64 2), (42, .int .i64 2), (49, pt m 2)] (by kernel_rfl) rfl ?_
       refine GL.sem (j := 6) (H621.ld (o := 2) (ty := 36) (v := .slice q2 a2.l.length k2) 0 rfl (by kernel_rfl) rfl) [0, 5, 8, 42, 50] [(0, pt m 0), (5, .int .i64 0), (8, .int .i64 2), (42, .int .i64 2), (50, .slice q2 a2.l.length k2)] (by kernel_rfl) (by kernel_rfl) rfl ?_
       refine GL.run (j := 8) 2 [0, 5, 8, 42, 52] [(0, pt m 0), (5, .int .i64 0), (8, .int .i64 2), (42, .int .i64 2), (52, .bool (decide (0 < (a2.l.length : Int))))] (by kernel_rfl) rfl ?_
       refine GL.k rfl hK631 (fun _ _ h => h) ?_
       have hb632 : (decide (0 < (a2.l.length : Int))) = true := by assumption
       rw [hb632]
       refine G.yes rfl ?_
       refine G.tail 10 (by kernel_rfl) (by kernel_rfl) ?_
       have H633 := H621.drew
       generalize ({ w619 with drawn := w619.drawn + 1 } : World) = w634 at H633 ⊢
       refine GS.run (j := 5) 5 [0, 5, 42, 53, 54, 57] [(0, pt m 0), (5, .int .i64 0), (42, .int .i64 2), (53, pt m 0), (54, .int .i64 2), (57, pt m 5)] (by kernel_rfl) rfl rfl ?_
       refine GS.sem (j := 6) (H633.ld (o := 5) (ty := 3) (v := .int .i64 (a2.p : Int)) 0 rfl (by kernel_rfl) rfl) [0, 5, 42, 53, 54, 58] [(0, pt m 0), (5, .int .i64 0), (42, .int .i64 2), (53, pt m 0), (54, .int .i64 2), (58, .int .i64 (a2.p : Int))] (by kernel_rfl) (by kernel_rfl) rfl rfl ?_
       refine GS.run (j := 10) 4 [0, 5, 42, 59, 62] [(0, pt m 0), (5, .int .i64 0), (42, .int .i64 2), (59, .int .i64 (IntKind.i64.wrap ((a2.p : Int) + 1))), (62, pt m 5)] (by kernel_rfl) rfl rfl ?_
       have e635 : (IntKind.i64.wrap ((a2.p : Int) + 1)) = ((a2.p + 1 : Nat) : Int) := by rw [in_i64 (by omega)]; omega
       refine GS.eq (M' := [(0, pt m 0), (5, .int .i64 0), (42, .int .i64 2), (59, .int .i64 ((a2.p + 1 : Nat) : Int)), (62, pt m 5)]) (by rw [e635]) ?_
       clear e635
       refine GS.tail rfl ?_
       obtain ⟨w636, r637, H638⟩ := H633.st (P := Try.prog) (o := 5) (ty := 3) (v := .int .i64 ((a2.p + 1 : Nat) : Int)) 0 rfl (by kernel_rfl) (by simp) rfl
       have H638 : Hp w S [.blk m [.slice q0 a0.l.length k0, .slice q1 a1.l.length k1, .slice q2 a2.l.length k2, .int .i64 ((a0.p + 1 : Nat) : Int), .int .i64 ((a1.p + 1 : Nat) : Int), .int .i64 ((a2.p + 1 : Nat) : Int), .bool cl] 39, .que q0 a0.l.length k0 9 (mq a0.l), .que q1 a1.l.length k1 9 (mq a1.l), .que q2 a2.l.length k2 9 (mq a2.l)] w636 := H638
       refine GL.semU (j := 11) r637 [0, 5, 42] [(0, pt m 0), (5, .int .i64 0), (42, .int .i64 2)] (by kernel_rfl) rfl rfl rfl ?_
       refine GL.k rfl hK627 (fun _ _ h => h) ?_
       refine G.region ?_
       refine GL.run (j := 2) 2 [0, 5, 42] [(0, pt m 0), (5, .int .i64 0), (42, .int .i64 3)] (by kernel_rfl) rfl ?_
       refine GL.round rfl ?_
       refine G.seqK fun K639 hK640 => ?_
       refine G.region ?_
       refine GL.run (j := 1) 1 [0, 5, 42, 43] [(0, pt m 0), (5, .int .i64 0), (42, .int .i64 3), (43, .bool false)] (by kernel_rfl) rfl ?_
       refine GL.k rfl hK640 (fun _ _ h => h) ?_
       refine G.seqK fun K641 hK642 => ?_
       refine G.no rfl ?_
       refine G.exitK hK585 (fun _ _ h => h) ?_
       refine G.seqK fun K643 hK644 => ?_
       refine G.region ?_
       refine GL.run (j := 5) 5 [0, 5, 68] [(0, pt m 0), (5, .int .i64 0), (68, pt m 3)] (by kernel_rfl) rfl ?_
       obtain ⟨w645, r646, H647⟩ := H638.st (P := Try.prog) (o := 3) (ty := 3) (v := .int .i64 0) 0 rfl (by kernel_rfl) (by simp) rfl
       have H647 : Hp w S [.blk m [.slice q0 a0.l.length k0, .slice q1 a1.l.length k1, .slice q2 a2.l.length k2, .int .i64 0, .int .i64 ((a1.p + 1 : Nat) : Int), .int .i64 ((a2.p + 1 : Nat) : Int), .bool cl] 39, .que q0 a0.l.length k0 9 (mq a0.l), .que q1 a1.l.length k1 9 (mq a1.l), .que q2 a2.l.length k2 9 (mq a2.l)] w645 := H647
       refine GL.semU (j := 6) r646 [0, 5] [(0, pt m 0), (5, .int .i64 0)] (by kernel_rfl) rfl rfl rfl ?_
       refine GL.k rfl hK644 (fun _ _ h => h) ?_
       refine G.seqK fun K648 hK649 => ?_
       refine G.region ?_
       refine GL.run (j := 5) 5 [0, 5, 73] [(0, pt m 0), (5, .int .i64 0), (73, pt m 0)] (by kernel_rfl) rfl ?_
       refine GL.sem (j := 6) (H647.ld (o := 0) (ty := 36) (v := .slice q0 a0.l.length k0) 0 rfl (by kernel_rfl) rfl) [0, 5, 74] [(0, pt m 0), (5, .int .i64 0), (74, .slice q0 a0.l.length k0)] (by kernel_rfl) (by kernel_rfl) rfl ?_
       refine GL.sem (j := 7) (run_idxRd (P := Try.prog) (k := .i64) (t := 36) (A := q0) (len := a0.l.length) (cap := k0) (j := 0) (by kernel_rfl) rfl (H647.rdQue 1 rfl) (mq_length _) (by omega)) [0, 5, 75] [(0, pt m 0), (5, .int .i64 0), (75, .pointer (Option.map (fun x => Addr.add x 0) q0))] (by kernel_rfl) (by kernel_rfl) rfl ?_
       refine GL.sem (j := 8) (run_ldRd (P := Try.prog) (ty := 9) (A := q0) (j := 0) (v := .string (strOf m_.b)) (by kernel_rfl) (H647.rdQue 1 rfl) (by rw [hmq]; rfl)) [0, 5, 76] [(0, pt m 0), (5, .int .i64 0), (76, .string (strOf m_.b))] (by kernel_rfl) (by kernel_rfl) rfl ?_
       refine GL.run (j := 9) 1 [0, 5, 9] [(0, pt m 0), (5, .int .i64 0), (9, .string (strOf m_.b))] (by kernel_rfl) rfl ?_
       refine GL.k rfl hK649 (fun _ _ h => h) ?_
       refine G.seqK fun K650 hK651 => ?_
       refine G.tail 12 (by kernel_rfl) (by kernel_rfl) ?_
       have H652 := H647.drew
       generalize ({ w645 with drawn := w645.drawn + 1 } : World) = w653 at H652 ⊢
       refine GS.run (j := 7) 7 [5, 9, 77, 78, 83] [(5, .int .i64 0), (9, .string (strOf m_.b)), (77, pt m 0), (78, .int .i64 0), (83, pt m 0)] (by kernel_rfl) rfl rfl ?_
       refine GS.sem (j := 8) (H652.ld (o := 0) (ty := 36) (v := .slice q0 a0.l.length k0) 0 rfl (by kernel_rfl) rfl) [5, 9, 77, 78, 84] [(5, .int .i64 0), (9, .string (strOf m_.b)), (77, pt m 0), (78, .int .i64 0), (84, .slice q0 a0.l.length k0)] (by kernel_rfl) (by kernel_rfl) rfl rfl ?_
       refine GS.sem (j := 9) (run_tail1 (P := Try.prog) (t := 36) (n := a0.l.length) (c := k0) (A := q0) (by kernel_rfl) (by omega) (by omega)) [5, 9, 77, 78, 85] [(5, .int .i64 0), (9, .string (strOf m_.b)), (77, pt m 0), (78, .int .i64 0), (85, .slice (if k0 = 1 then q0 else q0.map fun a => Addr.add a 1) (a0.l.length - 1) (k0 - 1))] (by kernel_rfl) (by kernel_rfl) rfl rfl ?_
       refine GS.run (j := 12) 3 [5, 9, 85, 88] [(5, .int .i64 0), (9, .string (strOf m_.b)), (85, .slice (if k0 = 1 then q0 else q0.map fun a => Addr.add a 1) (a0.l.length - 1) (k0 - 1)), (88, pt m 0)] (by kernel_rfl) rfl rfl ?_
       refine GS.tail rfl ?_
       obtain ⟨w654, r655, H656⟩ := H652.st (P := Try.prog) (o := 0) (ty := 36) (v := .slice (if k0 = 1 then q0 else q0.map fun a => Addr.add a 1) (a0.l.length - 1) (k0 - 1)) 0 rfl (by kernel_rfl) (by simp) rfl
       have H656 : Hp w S [.blk m [.slice (if k0 = 1 then q0 else q0.map fun a => Addr.add a 1) (a0.l.length - 1) (k0 - 1), .slice q1 a1.l.length k1, .slice q2 a2.l.length k2, .int .i64 0, .int .i64 ((a1.p + 1 : Nat) : Int), .int .i64 ((a2.p + 1 : Nat) : Int), .bool cl] 39, .que q0 a0.l.length k0 9 (mq a0.l), .que q1 a1.l.length k1 9 (mq a1.l), .que q2 a2.l.length k2 9 (mq a2.l)] w654 := H656
       refine GL.semU (j := 13) r655 [5, 9] [(5, .int .i64 0), (9, .string (strOf m_.b))] (by kernel_rfl) rfl rfl rfl ?_
       refine GL.k rfl hK651 (fun _ _ h => h) ?_
       refine G.seqK fun K657 hK658 => ?_
       refine G.region ?_
       refine GL.run (j := 5) 5 [2, 3, 4] [(2, .string (strOf m_.b)), (3, .int .i64 0), (4, .bool true)] (by kernel_rfl) rfl ?_
       refine GL.k rfl hK658 (fun _ _ h => h) ?_
       refine G.ret ?_
       intro F_ hF_ hM_
       refine hRet _ _ (bodyPost_3 rfl (RV.tmp rfl) (RV.tmp rfl) (RV.tmp rfl) ?_ F_ hF_ hM_)
       have HT := H656.queTail 1 (x := .string (strOf m_.b)) (xs := mq t_) (by rw [← hmq]; rfl) (by rw [mq_length, hlk]; rfl)
       have HZ : Hp w S [.blk m [.slice (if k0 = 1 then q0 else q0.map fun a => Addr.add a 1) ((a0.took t_).l.length) (k0 - 1), .slice q1 a1.pass.l.length k1, .slice q2 a2.pass.l.length k2, .int .i64 (((a0.took t_).p : Nat) : Int), .int .i64 (a1.pass.p : Int), .int .i64 (a2.pass.p : Int), .bool cl] 39, .que (if k0 = 1 then q0 else q0.map fun a => Addr.add a 1) ((a0.took t_).l.length) (k0 - 1) 9 (mq (a0.took t_).l), .que q1 a1.pass.l.length k1 9 (mq a1.pass.l), .que q2 a2.pass.l.length k2 9 (mq a2.pass.l)] w654 := by rw [show (a0.took t_).l.length = a0.l.length - 1 by rw [hlk]; rfl, show a1.pass.p = a1.p + 1 by unfold Lane.pass; exact if_neg (by omega), show a2.pass.p = a2.p + 1 by unfold Lane.pass; exact if_neg (by omega)]; exact HT
       exact ⟨_, _, rfl, HZ⟩
set_option maxHeartbeats 4000000 in
theorem MTake1_calls (S : List Nat) (m : Nat) (q0 q1 q2 : Option Addr) (k0 k1 k2 : Nat) (cl : Bool) (a0 a1 a2 : Lane) (m_ : Msg) (t_ : List Msg) (w : World) (h0 : Hp w S [.blk m [.slice q0 a0.l.length k0, .slice q1 a1.l.length k1, .slice q2 a2.l.length k2, .int .i64 (a0.p : Int), .int .i64 (a1.p : Int), .int .i64 (a2.p : Int), .bool cl] 39, .que q0 a0.l.length k0 9 (mq a0.l), .que q1 a1.l.length k1 9 (mq a1.l), .que q2 a2.l.length k2 9 (mq a2.l)] w) (hz0 : a0.z) (hz1 : a1.z) (hz2 : a2.z) (htk : tkN a0 a1 a2 = 1) (hlk : a1.l = m_ :: t_) : Calls Try.prog 11 #[pt m 0] w fun e w' => ∃ A' c', e = .returned (.tuple #[.string (strOf m_.b), .int .i64 1, .bool true]) ∧ Hp w S [.blk m [.slice q0 a0.pass.l.length k0, .slice A' ((a1.took t_).l.length) c', .slice q2 a2.pass.l.length k2, .int .i64 (a0.pass.p : Int), .int .i64 (((a1.took t_).p : Nat) : Int), .int .i64 (a2.pass.p : Int), .bool cl] 39, .que q0 a0.pass.l.length k0 9 (mq a0.pass.l), .que A' ((a1.took t_).l.length) c' 9 (mq (a1.took t_).l), .que q2 a2.pass.l.length k2 9 (mq a2.pass.l)] w' := by
 have hmq : mq a1.l = .string (strOf m_.b) :: mq t_ := by rw [hlk]; rfl
 have hne : a1.l.length ≠ 0 := by rw [hlk]; exact Nat.succ_ne_zero _
 have hzp0 := hz0.2
 have hq0 := (h0.queLe 1 rfl).1
 have hzp1 := hz1.2
 have hq1 := (h0.queLe 2 rfl).1
 have hzp2 := hz2.2
 have hq2 := (h0.queLe 3 rfl).1
 refine calls_G (args := [pt m 0]) Try.func11 rfl Try.ntmps11 rfl ?_
 intro Q0 hRet hNor hPan
 have H := h0
 have H : Hp w S [.blk m [.slice q0 a0.l.length k0, .slice q1 a1.l.length k1, .slice q2 a2.l.length k2, .int .i64 (a0.p : Int), .int .i64 (a1.p : Int), .int .i64 (a2.p : Int), .bool cl] 39, .que q0 a0.l.length k0 9 (mq a0.l), .que q1 a1.l.length k1 9 (mq a1.l), .que q2 a2.l.length k2 9 (mq a2.l)] w := H
 refine G.seqK fun K1 hK2 => ?_
 refine G.region ?_
 refine GL.run (j := 3) 3 [0] [(0, pt m 0)] (by kernel_rfl) rfl ?_
 refine GL.k rfl hK2 (fun _ _ h => h) ?_
 refine G.seqK fun K3 hK4 => ?_
 refine G.region ?_
 refine GL.run (j := 1) 1 [0, 5] [(0, pt m 0), (5, .int .i64 (-1))] (by kernel_rfl) rfl ?_
 refine GL.k rfl hK4 (fun _ _ h => h) ?_
 refine G.seqK fun K5 hK6 => ?_
 refine G.seqK fun K7 hK8 => ?_
 refine G.region ?_
 refine GL.run (j := 1) 1 [0, 5, 6] [(0, pt m 0), (5, .int .i64 (-1)), (6, .int .i64 2)] (by kernel_rfl) rfl ?_
 refine GL.k rfl hK8 (fun _ _ h => h) ?_
 refine G.block ?_
 refine G.unroll 3 ?_
 refine G.seqK fun K9 hK10 => ?_
 refine G.seqK fun K11 hK12 => ?_
 refine G.region ?_
 refine GL.run (j := 2) 2 [0, 5, 6, 11] [(0, pt m 0), (5, .int .i64 (-1)), (6, .int .i64 2), (11, .bool true)] (by kernel_rfl) rfl ?_
 refine GL.k rfl hK12 (fun _ _ h => h) ?_
 refine G.yes rfl ?_
 refine G.skipK hK10 (fun _ _ h => h) ?_
 refine G.seqK fun K13 hK14 => ?_
 refine G.block ?_
 refine G.seqK fun K15 hK16 => ?_
 refine G.region ?_
 refine GL.run (j := 5) 5 [0, 5, 6, 18] [(0, pt m 0), (5, .int .i64 (-1)), (6, .int .i64 2), (18, pt m 2)] (by kernel_rfl) rfl ?_
 refine GL.sem (j := 6) (H.ld (o := 2) (ty := 36) (v := .slice q2 a2.l.length k2) 0 rfl (by kernel_rfl) rfl) [0, 5, 6, 19] [(0, pt m 0), (5, .int .i64 (-1)), (6, .int .i64 2), (19, .slice q2 a2.l.length k2)] (by kernel_rfl) (by kernel_rfl) rfl ?_
 refine GL.run (j := 8) 2 [0, 5, 6, 21] [(0, pt m 0), (5, .int .i64 (-1)), (6, .int .i64 2), (21, .bool (decide (0 < (a2.l.length : Int))))] (by kernel_rfl) rfl ?_
 refine GL.k rfl hK16 (fun _ _ h => h) ?_
 cases hb17 : (decide (0 < (a2.l.length : Int)))
 · skip
   have hb17f := of_decide_eq_false hb17
   refine G.no rfl ?_
   refine G.region ?_
   refine GL.run (j := 5) 5 [0, 5, 6, 27] [(0, pt m 0), (5, .int .i64 (-1)), (6, .int .i64 2), (27, pt m 5)] (by kernel_rfl) rfl ?_
   obtain ⟨w18, r19, H20⟩ := H.st (P := Try.prog) (o := 5) (ty := 3) (v := .int .i64 0) 0 rfl (by kernel_rfl) (by simp) rfl
   have H20 : Hp w S [.blk m [.slice q0 a0.l.length k0, .slice q1 a1.l.length k1, .slice q2 a2.l.length k2, .int .i64 (a0.p : Int), .int .i64 (a1.p : Int), .int .i64 0, .bool cl] 39, .que q0 a0.l.length k0 9 (mq a0.l), .que q1 a1.l.length k1 9 (mq a1.l), .que q2 a2.l.length k2 9 (mq a2.l)] w18 := H20
   refine GL.semU (j := 6) r19 [0, 5, 6] [(0, pt m 0), (5, .int .i64 (-1)), (6, .int .i64 2)] (by kernel_rfl) rfl rfl rfl ?_
   refine GL.k rfl hK14 (fun _ _ h => h) ?_
   refine G.region ?_
   refine GL.run (j := 3) 3 [0, 5, 6] [(0, pt m 0), (5, .int .i64 (-1)), (6, .int .i64 1)] (by kernel_rfl) rfl ?_
   refine GL.round rfl ?_
   refine G.seqK fun K21 hK22 => ?_
   refine G.seqK fun K23 hK24 => ?_
   refine G.region ?_
   refine GL.run (j := 2) 2 [0, 5, 6, 11] [(0, pt m 0), (5, .int .i64 (-1)), (6, .int .i64 1), (11, .bool true)] (by kernel_rfl) rfl ?_
   refine GL.k rfl hK24 (fun _ _ h => h) ?_
   refine G.yes rfl ?_
   refine G.skipK hK22 (fun _ _ h => h) ?_
   refine G.seqK fun K25 hK26 => ?_
   refine G.block ?_
   refine G.seqK fun K27 hK28 => ?_
   refine G.region ?_
   refine GL.run (j := 5) 5 [0, 5, 6, 18] [(0, pt m 0), (5, .int .i64 (-1)), (6, .int .i64 1), (18, pt m 1)] (by kernel_rfl) rfl ?_
   refine GL.sem (j := 6) (H20.ld (o := 1) (ty := 36) (v := .slice q1 a1.l.length k1) 0 rfl (by kernel_rfl) rfl) [0, 5, 6, 19] [(0, pt m 0), (5, .int .i64 (-1)), (6, .int .i64 1), (19, .slice q1 a1.l.length k1)] (by kernel_rfl) (by kernel_rfl) rfl ?_
   refine GL.run (j := 8) 2 [0, 5, 6, 21] [(0, pt m 0), (5, .int .i64 (-1)), (6, .int .i64 1), (21, .bool (decide (0 < (a1.l.length : Int))))] (by kernel_rfl) rfl ?_
   refine GL.k rfl hK28 (fun _ _ h => h) ?_
   have hb29 : (decide (0 < (a1.l.length : Int))) = true := decide_eq_true (by omega)
   rw [hb29]
   refine G.yes rfl ?_
   refine G.region ?_
   refine GL.run (j := 2) 2 [0, 5, 6] [(0, pt m 0), (5, .int .i64 1), (6, .int .i64 1)] (by kernel_rfl) rfl ?_
   refine GL.k rfl hK26 (fun _ _ h => h) ?_
   refine G.region ?_
   refine GL.run (j := 3) 3 [0, 5, 6] [(0, pt m 0), (5, .int .i64 1), (6, .int .i64 0)] (by kernel_rfl) rfl ?_
   refine GL.round rfl ?_
   refine G.seqK fun K30 hK31 => ?_
   refine G.seqK fun K32 hK33 => ?_
   refine G.region ?_
   refine GL.run (j := 2) 2 [0, 5, 6, 11] [(0, pt m 0), (5, .int .i64 1), (6, .int .i64 0), (11, .bool true)] (by kernel_rfl) rfl ?_
   refine GL.k rfl hK33 (fun _ _ h => h) ?_
   refine G.yes rfl ?_
   refine G.skipK hK31 (fun _ _ h => h) ?_
   refine G.seqK fun K34 hK35 => ?_
   refine G.block ?_
   refine G.seqK fun K36 hK37 => ?_
   refine G.region ?_
   refine GL.run (j := 5) 5 [0, 5, 6, 18] [(0, pt m 0), (5, .int .i64 1), (6, .int .i64 0), (18, pt m 0)] (by kernel_rfl) rfl ?_
   refine GL.sem (j := 6) (H20.ld (o := 0) (ty := 36) (v := .slice q0 a0.l.length k0) 0 rfl (by kernel_rfl) rfl) [0, 5, 6, 19] [(0, pt m 0), (5, .int .i64 1), (6, .int .i64 0), (19, .slice q0 a0.l.length k0)] (by kernel_rfl) (by kernel_rfl) rfl ?_
   refine GL.run (j := 8) 2 [0, 5, 6, 21] [(0, pt m 0), (5, .int .i64 1), (6, .int .i64 0), (21, .bool (decide (0 < (a0.l.length : Int))))] (by kernel_rfl) rfl ?_
   refine GL.k rfl hK37 (fun _ _ h => h) ?_
   cases hb38 : (decide (0 < (a0.l.length : Int)))
   · skip
     have hb38f := of_decide_eq_false hb38
     refine G.no rfl ?_
     refine G.region ?_
     refine GL.run (j := 5) 5 [0, 5, 6, 27] [(0, pt m 0), (5, .int .i64 1), (6, .int .i64 0), (27, pt m 3)] (by kernel_rfl) rfl ?_
     obtain ⟨w39, r40, H41⟩ := H20.st (P := Try.prog) (o := 3) (ty := 3) (v := .int .i64 0) 0 rfl (by kernel_rfl) (by simp) rfl
     have H41 : Hp w S [.blk m [.slice q0 a0.l.length k0, .slice q1 a1.l.length k1, .slice q2 a2.l.length k2, .int .i64 0, .int .i64 (a1.p : Int), .int .i64 0, .bool cl] 39, .que q0 a0.l.length k0 9 (mq a0.l), .que q1 a1.l.length k1 9 (mq a1.l), .que q2 a2.l.length k2 9 (mq a2.l)] w39 := H41
     refine GL.semU (j := 6) r40 [0, 5, 6] [(0, pt m 0), (5, .int .i64 1), (6, .int .i64 0)] (by kernel_rfl) rfl rfl rfl ?_
     refine GL.k rfl hK35 (fun _ _ h => h) ?_
     refine G.region ?_
     refine GL.run (j := 3) 3 [0, 5, 6] [(0, pt m 0), (5, .int .i64 1), (6, .int .i64 (-1))] (by kernel_rfl) rfl ?_
     refine GL.round rfl ?_
     refine G.seqK fun K42 hK43 => ?_
     refine G.seqK fun K44 hK45 => ?_
     refine G.region ?_
     refine GL.run (j := 2) 2 [0, 5, 6, 11] [(0, pt m 0), (5, .int .i64 1), (6, .int .i64 (-1)), (11, .bool false)] (by kernel_rfl) rfl ?_
     refine GL.k rfl hK45 (fun _ _ h => h) ?_
     refine G.no rfl ?_
     refine G.exitK hK6 (fun _ _ h => h) ?_
     refine G.seqK fun K46 hK47 => ?_
     refine G.seqK fun K48 hK49 => ?_
     refine G.region ?_
     refine GL.run (j := 2) 2 [0, 5, 29] [(0, pt m 0), (5, .int .i64 1), (29, .bool false)] (by kernel_rfl) rfl ?_
     refine GL.k rfl hK49 (fun _ _ h => h) ?_
     refine G.no rfl ?_
     refine G.skipK hK47 (fun _ _ h => h) ?_
     refine G.seqJ (X := Unit) (fun _ => [(0, pt m 0), (5, .int .i64 1)]) (fun _ w_ => (True) ∧ Hp w S [.blk m [.slice q0 a0.l.length k0, .slice q1 a1.l.length k1, .slice q2 a2.l.length k2, .int .i64 (a0.p : Int), .int .i64 (a1.p : Int), .int .i64 (a2.p : Int), .bool cl] 39, .que q0 a0.l.length k0 9 (mq a0.l), .que q1 a1.l.length k1 9 (mq a1.l), .que q2 a2.l.length k2 9 (mq a2.l)] w_) (fun J50 K51 hK52 => ?_) ?_
     · skip
       refine G.seqK fun K53 hK54 => ?_
       refine G.region ?_
       refine GL.run (j := 1) 1 [0, 5, 7] [(0, pt m 0), (5, .int .i64 1), (7, .int .i64 2)] (by kernel_rfl) rfl ?_
       refine GL.k rfl hK54 (fun _ _ h => h) ?_
       refine G.block ?_
       refine G.unroll 3 ?_
       refine G.seqK fun K55 hK56 => ?_
       refine G.seqK fun K57 hK58 => ?_
       refine G.region ?_
       refine GL.run (j := 2) 2 [0, 5, 7, 31] [(0, pt m 0), (5, .int .i64 1), (7, .int .i64 2), (31, .bool true)] (by kernel_rfl) rfl ?_
       refine GL.k rfl hK58 (fun _ _ h => h) ?_
       refine G.yes rfl ?_
       refine G.skipK hK56 (fun _ _ h => h) ?_
       refine G.seqK fun K59 hK60 => ?_
       refine G.block ?_
       refine G.seqK fun K61 hK62 => ?_
       refine G.region ?_
       refine GL.run (j := 5) 5 [0, 5, 7, 38] [(0, pt m 0), (5, .int .i64 1), (7, .int .i64 2), (38, pt m 5)] (by kernel_rfl) rfl ?_
       refine GL.sem (j := 6) (H41.ld (o := 5) (ty := 3) (v := .int .i64 0) 0 rfl (by kernel_rfl) rfl) [0, 5, 7, 39] [(0, pt m 0), (5, .int .i64 1), (7, .int .i64 2), (39, .int .i64 0)] (by kernel_rfl) (by kernel_rfl) rfl ?_
       refine GL.run (j := 7) 1 [0, 5, 7, 40] [(0, pt m 0), (5, .int .i64 1), (7, .int .i64 2), (40, .bool false)] (by kernel_rfl) rfl ?_
       refine GL.k rfl hK62 (fun _ _ h => h) ?_
       refine G.no rfl ?_
       refine G.skipK hK60 (fun _ _ h => h) ?_
       refine G.region ?_
       refine GL.run (j := 3) 3 [0, 5, 7] [(0, pt m 0), (5, .int .i64 1), (7, .int .i64 1)] (by kernel_rfl) rfl ?_
       refine GL.round rfl ?_
       refine G.seqK fun K63 hK64 => ?_
       refine G.seqK fun K65 hK66 => ?_
       refine G.region ?_
       refine GL.run (j := 2) 2 [0, 5, 7, 31] [(0, pt m 0), (5, .int .i64 1), (7, .int .i64 1), (31, .bool true)] (by kernel_rfl) rfl ?_
       refine GL.k rfl hK66 (fun _ _ h => h) ?_
       refine G.yes rfl ?_
       refine G.skipK hK64 (fun _ _ h => h) ?_
       refine G.seqK fun K67 hK68 => ?_
       refine G.block ?_
       refine G.seqK fun K69 hK70 => ?_
       refine G.region ?_
       refine GL.run (j := 5) 5 [0, 5, 7, 38] [(0, pt m 0), (5, .int .i64 1), (7, .int .i64 1), (38, pt m 4)] (by kernel_rfl) rfl ?_
       refine GL.sem (j := 6) (H41.ld (o := 4) (ty := 3) (v := .int .i64 (a1.p : Int)) 0 rfl (by kernel_rfl) rfl) [0, 5, 7, 39] [(0, pt m 0), (5, .int .i64 1), (7, .int .i64 1), (39, .int .i64 (a1.p : Int))] (by kernel_rfl) (by kernel_rfl) rfl ?_
       refine GL.run (j := 7) 1 [0, 5, 7, 40] [(0, pt m 0), (5, .int .i64 1), (7, .int .i64 1), (40, .bool (decide (4 ≤ (a1.p : Int))))] (by kernel_rfl) rfl ?_
       refine GL.k rfl hK70 (fun _ _ h => h) ?_
       cases hb71 : (decide (4 ≤ (a1.p : Int)))
       · skip
         have hb71f := of_decide_eq_false hb71
         refine G.no rfl ?_
         refine G.skipK hK68 (fun _ _ h => h) ?_
         refine G.region ?_
         refine GL.run (j := 3) 3 [0, 5, 7] [(0, pt m 0), (5, .int .i64 1), (7, .int .i64 0)] (by kernel_rfl) rfl ?_
         refine GL.round rfl ?_
         refine G.seqK fun K72 hK73 => ?_
         refine G.seqK fun K74 hK75 => ?_
         refine G.region ?_
         refine GL.run (j := 2) 2 [0, 5, 7, 31] [(0, pt m 0), (5, .int .i64 1), (7, .int .i64 0), (31, .bool true)] (by kernel_rfl) rfl ?_
         refine GL.k rfl hK75 (fun _ _ h => h) ?_
         refine G.yes rfl ?_
         refine G.skipK hK73 (fun _ _ h => h) ?_
         refine G.seqK fun K76 hK77 => ?_
         refine G.block ?_
         refine G.seqK fun K78 hK79 => ?_
         refine G.region ?_
         refine GL.run (j := 5) 5 [0, 5, 7, 38] [(0, pt m 0), (5, .int .i64 1), (7, .int .i64 0), (38, pt m 3)] (by kernel_rfl) rfl ?_
         refine GL.sem (j := 6) (H41.ld (o := 3) (ty := 3) (v := .int .i64 0) 0 rfl (by kernel_rfl) rfl) [0, 5, 7, 39] [(0, pt m 0), (5, .int .i64 1), (7, .int .i64 0), (39, .int .i64 0)] (by kernel_rfl) (by kernel_rfl) rfl ?_
         refine GL.run (j := 7) 1 [0, 5, 7, 40] [(0, pt m 0), (5, .int .i64 1), (7, .int .i64 0), (40, .bool false)] (by kernel_rfl) rfl ?_
         refine GL.k rfl hK79 (fun _ _ h => h) ?_
         refine G.no rfl ?_
         refine G.skipK hK77 (fun _ _ h => h) ?_
         refine G.region ?_
         refine GL.run (j := 3) 3 [0, 5, 7] [(0, pt m 0), (5, .int .i64 1), (7, .int .i64 (-1))] (by kernel_rfl) rfl ?_
         refine GL.round rfl ?_
         refine G.seqK fun K80 hK81 => ?_
         refine G.seqK fun K82 hK83 => ?_
         refine G.region ?_
         refine GL.run (j := 2) 2 [0, 5, 7, 31] [(0, pt m 0), (5, .int .i64 1), (7, .int .i64 (-1)), (31, .bool false)] (by kernel_rfl) rfl ?_
         refine GL.k rfl hK83 (fun _ _ h => h) ?_
         refine G.no rfl ?_
         refine G.exitK hK52 (fun _ _ h => h) ?_
         have e0 : tkN a0 a1 a2 = 1 := by
           unfold tkN
           repeat' split
           all_goals omega
         have HZ : Hp w S [.blk m [.slice q0 a0.l.length k0, .slice q1 a1.l.length k1, .slice q2 a2.l.length k2, .int .i64 (a0.p : Int), .int .i64 (a1.p : Int), .int .i64 (a2.p : Int), .bool cl] 39, .que q0 a0.l.length k0 9 (mq a0.l), .que q1 a1.l.length k1 9 (mq a1.l), .que q2 a2.l.length k2 9 (mq a2.l)] w39 := by rw [show a0.p = 0 from hz0.1 (by omega), show a2.p = 0 from hz2.1 (by omega)]; exact H41
         refine G.fit [0, 5] (M' := [(0, pt m 0), (5, .int .i64 1)]) (by kernel_rfl) ?_
         exact J50 () _ ⟨trivial, HZ⟩
       · skip
         have hb71f := of_decide_eq_true hb71
         refine G.yes rfl ?_
         refine G.region ?_
         refine GL.run (j := 2) 2 [0, 5, 7] [(0, pt m 0), (5, .int .i64 1), (7, .int .i64 1)] (by kernel_rfl) rfl ?_
         refine GL.k rfl hK68 (fun _ _ h => h) ?_
         refine G.region ?_
         refine GL.run (j := 3) 3 [0, 5, 7] [(0, pt m 0), (5, .int .i64 1), (7, .int .i64 0)] (by kernel_rfl) rfl ?_
         refine GL.round rfl ?_
         refine G.seqK fun K84 hK85 => ?_
         refine G.seqK fun K86 hK87 => ?_
         refine G.region ?_
         refine GL.run (j := 2) 2 [0, 5, 7, 31] [(0, pt m 0), (5, .int .i64 1), (7, .int .i64 0), (31, .bool true)] (by kernel_rfl) rfl ?_
         refine GL.k rfl hK87 (fun _ _ h => h) ?_
         refine G.yes rfl ?_
         refine G.skipK hK85 (fun _ _ h => h) ?_
         refine G.seqK fun K88 hK89 => ?_
         refine G.block ?_
         refine G.seqK fun K90 hK91 => ?_
         refine G.region ?_
         refine GL.run (j := 5) 5 [0, 5, 7, 38] [(0, pt m 0), (5, .int .i64 1), (7, .int .i64 0), (38, pt m 3)] (by kernel_rfl) rfl ?_
         refine GL.sem (j := 6) (H41.ld (o := 3) (ty := 3) (v := .int .i64 0) 0 rfl (by kernel_rfl) rfl) [0, 5, 7, 39] [(0, pt m 0), (5, .int .i64 1), (7, .int .i64 0), (39, .int .i64 0)] (by kernel_rfl) (by kernel_rfl) rfl ?_
         refine GL.run (j := 7) 1 [0, 5, 7, 40] [(0, pt m 0), (5, .int .i64 1), (7, .int .i64 0), (40, .bool false)] (by kernel_rfl) rfl ?_
         refine GL.k rfl hK91 (fun _ _ h => h) ?_
         refine G.no rfl ?_
         refine G.skipK hK89 (fun _ _ h => h) ?_
         refine G.region ?_
         refine GL.run (j := 3) 3 [0, 5, 7] [(0, pt m 0), (5, .int .i64 1), (7, .int .i64 (-1))] (by kernel_rfl) rfl ?_
         refine GL.round rfl ?_
         refine G.seqK fun K92 hK93 => ?_
         refine G.seqK fun K94 hK95 => ?_
         refine G.region ?_
         refine GL.run (j := 2) 2 [0, 5, 7, 31] [(0, pt m 0), (5, .int .i64 1), (7, .int .i64 (-1)), (31, .bool false)] (by kernel_rfl) rfl ?_
         refine GL.k rfl hK95 (fun _ _ h => h) ?_
         refine G.no rfl ?_
         refine G.exitK hK52 (fun _ _ h => h) ?_
         have e0 : tkN a0 a1 a2 = 1 := by
           unfold tkN
           repeat' split
           all_goals omega
         have HZ : Hp w S [.blk m [.slice q0 a0.l.length k0, .slice q1 a1.l.length k1, .slice q2 a2.l.length k2, .int .i64 (a0.p : Int), .int .i64 (a1.p : Int), .int .i64 (a2.p : Int), .bool cl] 39, .que q0 a0.l.length k0 9 (mq a0.l), .que q1 a1.l.length k1 9 (mq a1.l), .que q2 a2.l.length k2 9 (mq a2.l)] w39 := by rw [show a0.p = 0 from hz0.1 (by omega), show a2.p = 0 from hz2.1 (by omega)]; exact H41
         refine G.fit [0, 5] (M' := [(0, pt m 0), (5, .int .i64 1)]) (by kernel_rfl) ?_
         exact J50 () _ ⟨trivial, HZ⟩
     · skip
       rintro _ w96 ⟨hi97, H98⟩
       refine G.eq (M' := [(0, pt m 0), (5, .int .i64 1)]) rfl ?_
       have H98 : Hp w S [.blk m [.slice q0 a0.l.length k0, .slice q1 a1.l.length k1, .slice q2 a2.l.length k2, .int .i64 (a0.p : Int), .int .i64 (a1.p : Int), .int .i64 (a2.p : Int), .bool cl] 39, .que q0 a0.l.length k0 9 (mq a0.l), .que q1 a1.l.length k1 9 (mq a1.l), .que q2 a2.l.length k2 9 (mq a2.l)] w96 := H98
       refine G.seqK fun K99 hK100 => ?_
       refine G.seqK fun K101 hK102 => ?_
       refine G.region ?_
       refine GL.run (j := 1) 1 [0, 5, 42] [(0, pt m 0), (5, .int .i64 1), (42, .int .i64 0)] (by kernel_rfl) rfl ?_
       refine GL.k rfl hK102 (fun _ _ h => h) ?_
       refine G.block ?_
       refine G.unroll 3 ?_
       refine G.seqK fun K103 hK104 => ?_
       refine G.region ?_
       refine GL.run (j := 1) 1 [0, 5, 42, 43] [(0, pt m 0), (5, .int .i64 1), (42, .int .i64 0), (43, .bool true)] (by kernel_rfl) rfl ?_
       refine GL.k rfl hK104 (fun _ _ h => h) ?_
       refine G.seqK fun K105 hK106 => ?_
       refine G.yes rfl ?_
       refine G.skipK hK106 (fun _ _ h => h) ?_
       refine G.seqK fun K107 hK108 => ?_
       refine G.block ?_
       refine G.seqK fun K109 hK110 => ?_
       refine G.region ?_
       refine GL.run (j := 2) 2 [0, 5, 8, 42] [(0, pt m 0), (5, .int .i64 1), (8, .int .i64 0), (42, .int .i64 0)] (by kernel_rfl) rfl ?_
       refine GL.k rfl hK110 (fun _ _ h => h) ?_
       refine G.seqK fun K111 hK112 => ?_
       refine G.region ?_
       refine GL.run (j := 5) 5 [0, 5, 8, 42, 49] [(0, pt m 0), (5, .int .i64 1), (8, .int .i64 0), (42, .int .i64 0), (49, pt m 0)] (by kernel_rfl) rfl ?_
       refine GL.sem (j := 6) (H98.ld (o := 0) (ty := 36) (v := .slice q0 a0.l.length k0) 0 rfl (by kernel_rfl) rfl) [0, 5, 8, 42, 50] [(0, pt m 0), (5, .int .i64 1), (8, .int .i64 0), (42, .int .i64 0), (50, .slice q0 a0.l.length k0)] (by kernel_rfl) (by kernel_rfl) rfl ?_
       refine GL.run (j := 8) 2 [0, 5, 8, 42, 52] [(0, pt m 0), (5, .int .i64 1), (8, .int .i64 0), (42, .int .i64 0), (52, .bool (decide (0 < (a0.l.length : Int))))] (by kernel_rfl) rfl ?_
       refine GL.k rfl hK112 (fun _ _ h => h) ?_
       have hb113 : (decide (0 < (a0.l.length : Int))) = false := by assumption
       rw [hb113]
       refine G.no rfl ?_
       refine G.skipK hK108 (fun _ _ h => h) ?_
       refine G.region ?_
       refine GL.run (j := 2) 2 [0, 5, 42] [(0, pt m 0), (5, .int .i64 1), (42, .int .i64 1)] (by kernel_rfl) rfl ?_
       refine GL.round rfl ?_
       refine G.seqK fun K114 hK115 => ?_
       refine G.region ?_
       refine GL.run (j := 1) 1 [0, 5, 42, 43] [(0, pt m 0), (5, .int .i64 1), (42, .int .i64 1), (43, .bool true)] (by kernel_rfl) rfl ?_
       refine GL.k rfl hK115 (fun _ _ h => h) ?_
       refine G.seqK fun K116 hK117 => ?_
       refine G.yes rfl ?_
       refine G.skipK hK117 (fun _ _ h => h) ?_
       refine G.seqK fun K118 hK119 => ?_
       refine G.block ?_
       refine G.seqK fun K120 hK121 => ?_
       refine G.region ?_
       refine GL.run (j := 2) 2 [0, 5, 8, 42] [(0, pt m 0), (5, .int .i64 1), (8, .int .i64 1), (42, .int .i64 1)] (by kernel_rfl) rfl ?_
       refine GL.k rfl hK121 (fun _ _ h => h) ?_
       refine G.seqK fun K122 hK123 => ?_
       refine G.region ?_
       refine GL.run (j := 5) 5 [0, 5, 8, 42, 49] [(0, pt m 0), (5, .int .i64 1), (8, .int .i64 1), (42, .int .i64 1), (49, pt m 1)] (by kernel_rfl) rfl ?_
       refine GL.sem (j := 6) (H98.ld (o := 1) (ty := 36) (v := .slice q1 a1.l.length k1) 0 rfl (by kernel_rfl) rfl) [0, 5, 8, 42, 50] [(0, pt m 0), (5, .int .i64 1), (8, .int .i64 1), (42, .int .i64 1), (50, .slice q1 a1.l.length k1)] (by kernel_rfl) (by kernel_rfl) rfl ?_
       refine GL.run (j := 8) 2 [0, 5, 8, 42, 52] [(0, pt m 0), (5, .int .i64 1), (8, .int .i64 1), (42, .int .i64 1), (52, .bool (decide (0 < (a1.l.length : Int))))] (by kernel_rfl) rfl ?_
       refine GL.k rfl hK123 (fun _ _ h => h) ?_
       have hb124 : (decide (0 < (a1.l.length : Int))) = true := by assumption
       rw [hb124]
       refine G.yes rfl ?_
       refine G.tail 10 (by kernel_rfl) (by kernel_rfl) ?_
       have H125 := H98.drew
       generalize ({ w96 with drawn := w96.drawn + 1 } : World) = w126 at H125 ⊢
       refine GS.run (j := 5) 5 [0, 5, 42, 53, 54, 57] [(0, pt m 0), (5, .int .i64 1), (42, .int .i64 1), (53, pt m 0), (54, .int .i64 1), (57, pt m 4)] (by kernel_rfl) rfl rfl ?_
       refine GS.sem (j := 6) (H125.ld (o := 4) (ty := 3) (v := .int .i64 (a1.p : Int)) 0 rfl (by kernel_rfl) rfl) [0, 5, 42, 53, 54, 58] [(0, pt m 0), (5, .int .i64 1), (42, .int .i64 1), (53, pt m 0), (54, .int .i64 1), (58, .int .i64 (a1.p : Int))] (by kernel_rfl) (by kernel_rfl) rfl rfl ?_
       refine GS.run (j := 10) 4 [0, 5, 42, 59, 62] [(0, pt m 0), (5, .int .i64 1), (42, .int .i64 1), (59, .int .i64 (IntKind.i64.wrap ((a1.p : Int) + 1))), (62, pt m 4)] (by kernel_rfl) rfl rfl ?_
       have e127 : (IntKind.i64.wrap ((a1.p : Int) + 1)) = ((a1.p + 1 : Nat) : Int) := by rw [in_i64 (by omega)]; omega
       refine GS.eq (M' := [(0, pt m 0), (5, .int .i64 1), (42, .int .i64 1), (59, .int .i64 ((a1.p + 1 : Nat) : Int)), (62, pt m 4)]) (by rw [e127]) ?_
       clear e127
       refine GS.tail rfl ?_
       obtain ⟨w128, r129, H130⟩ := H125.st (P := Try.prog) (o := 4) (ty := 3) (v := .int .i64 ((a1.p + 1 : Nat) : Int)) 0 rfl (by kernel_rfl) (by simp) rfl
       have H130 : Hp w S [.blk m [.slice q0 a0.l.length k0, .slice q1 a1.l.length k1, .slice q2 a2.l.length k2, .int .i64 (a0.p : Int), .int .i64 ((a1.p + 1 : Nat) : Int), .int .i64 (a2.p : Int), .bool cl] 39, .que q0 a0.l.length k0 9 (mq a0.l), .que q1 a1.l.length k1 9 (mq a1.l), .que q2 a2.l.length k2 9 (mq a2.l)] w128 := H130
       refine GL.semU (j := 11) r129 [0, 5, 42] [(0, pt m 0), (5, .int .i64 1), (42, .int .i64 1)] (by kernel_rfl) rfl rfl rfl ?_
       refine GL.k rfl hK119 (fun _ _ h => h) ?_
       refine G.region ?_
       refine GL.run (j := 2) 2 [0, 5, 42] [(0, pt m 0), (5, .int .i64 1), (42, .int .i64 2)] (by kernel_rfl) rfl ?_
       refine GL.round rfl ?_
       refine G.seqK fun K131 hK132 => ?_
       refine G.region ?_
       refine GL.run (j := 1) 1 [0, 5, 42, 43] [(0, pt m 0), (5, .int .i64 1), (42, .int .i64 2), (43, .bool true)] (by kernel_rfl) rfl ?_
       refine GL.k rfl hK132 (fun _ _ h => h) ?_
       refine G.seqK fun K133 hK134 => ?_
       refine G.yes rfl ?_
       refine G.skipK hK134 (fun _ _ h => h) ?_
       refine G.seqK fun K135 hK136 => ?_
       refine G.block ?_
       refine G.seqK fun K137 hK138 => ?_
       refine G.region ?_
       refine GL.run (j := 2) 2 [0, 5, 8, 42] [(0, pt m 0), (5, .int .i64 1), (8, .int .i64 2), (42, .int .i64 2)] (by kernel_rfl) rfl ?_
       refine GL.k rfl hK138 (fun _ _ h => h) ?_
       refine G.seqK fun K139 hK140 => ?_
       refine G.region ?_
       refine GL.run (j := 5) 5 [0, 5, 8, 42, 49] [(0, pt m 0), (5, .int .i64 1), (8, .int .i64 2), (42, .int .i64 2), (49, pt m 2)] (by kernel_rfl) rfl ?_
       refine GL.sem (j := 6) (H130.ld (o := 2) (ty := 36) (v := .slice q2 a2.l.length k2) 0 rfl (by kernel_rfl) rfl) [0, 5, 8, 42, 50] [(0, pt m 0), (5, .int .i64 1), (8, .int .i64 2), (42, .int .i64 2), (50, .slice q2 a2.l.length k2)] (by kernel_rfl) (by kernel_rfl) rfl ?_
       refine GL.run (j := 8) 2 [0, 5, 8, 42, 52] [(0, pt m 0), (5, .int .i64 1), (8, .int .i64 2), (42, .int .i64 2), (52, .bool (decide (0 < (a2.l.length : Int))))] (by kernel_rfl) rfl ?_
       refine GL.k rfl hK140 (fun _ _ h => h) ?_
       have hb141 : (decide (0 < (a2.l.length : Int))) = false := by assumption
       rw [hb141]
       refine G.no rfl ?_
       refine G.skipK hK136 (fun _ _ h => h) ?_
       refine G.region ?_
       refine GL.run (j := 2) 2 [0, 5, 42] [(0, pt m 0), (5, .int .i64 1), (42, .int .i64 3)] (by kernel_rfl) rfl ?_
       refine GL.round rfl ?_
       refine G.seqK fun K142 hK143 => ?_
       refine G.region ?_
       refine GL.run (j := 1) 1 [0, 5, 42, 43] [(0, pt m 0), (5, .int .i64 1), (42, .int .i64 3), (43, .bool false)] (by kernel_rfl) rfl ?_
       refine GL.k rfl hK143 (fun _ _ h => h) ?_
       refine G.seqK fun K144 hK145 => ?_
       refine G.no rfl ?_
       refine G.exitK hK100 (fun _ _ h => h) ?_
       refine G.seqK fun K146 hK147 => ?_
       refine G.region ?_
       refine GL.run (j := 5) 5 [0, 5, 68] [(0, pt m 0), (5, .int .i64 1), (68, pt m 4)] (by kernel_rfl) rfl ?_
       obtain ⟨w148, r149, H150⟩ := H130.st (P := Try.prog) (o := 4) (ty := 3) (v := .int .i64 0) 0 rfl (by kernel_rfl) (by simp) rfl
       have H150 : Hp w S [.blk m [.slice q0 a0.l.length k0, .slice q1 a1.l.length k1, .slice q2 a2.l.length k2, .int .i64 (a0.p : Int), .int .i64 0, .int .i64 (a2.p : Int), .bool cl] 39, .que q0 a0.l.length k0 9 (mq a0.l), .que q1 a1.l.length k1 9 (mq a1.l), .que q2 a2.l.length k2 9 (mq a2.l)] w148 := H150
       refine GL.semU (j := 6) r149 [0, 5] [(0, pt m 0), (5, .int .i64 1)] (by kernel_rfl) rfl rfl rfl ?_
       refine GL.k rfl hK147 (fun _ _ h => h) ?_
       refine G.seqK fun K151 hK152 => ?_
       refine G.region ?_
       refine GL.run (j := 5) 5 [0, 5, 73] [(0, pt m 0), (5, .int .i64 1), (73, pt m 1)] (by kernel_rfl) rfl ?_
       refine GL.sem (j := 6) (H150.ld (o := 1) (ty := 36) (v := .slice q1 a1.l.length k1) 0 rfl (by kernel_rfl) rfl) [0, 5, 74] [(0, pt m 0), (5, .int .i64 1), (74, .slice q1 a1.l.length k1)] (by kernel_rfl) (by kernel_rfl) rfl ?_
       refine GL.sem (j := 7) (run_idxRd (P := Try.prog) (k := .i64) (t := 36) (A := q1) (len := a1.l.length) (cap := k1) (j := 0) (by kernel_rfl) rfl (H150.rdQue 2 rfl) (mq_length _) (by omega)) [0, 5, 75] [(0, pt m 0), (5, .int .i64 1), (75, .pointer (Option.map (fun x => Addr.add x 0) q1))] (by kernel_rfl) (by kernel_rfl) rfl ?_
       refine GL.sem (j := 8) (run_ldRd (P := Try.prog) (ty := 9) (A := q1) (j := 0) (v := .string (strOf m_.b)) (by kernel_rfl) (H150.rdQue 2 rfl) (by rw [hmq]; rfl)) [0, 5, 76] [(0, pt m 0), (5, .int .i64 1), (76, .string (strOf m_.b))] (by kernel_rfl) (by kernel_rfl) rfl ?_
       refine GL.run (j := 9) 1 [0, 5, 9] [(0, pt m 0), (5, .int .i64 1), (9, .string (strOf m_.b))] (by kernel_rfl) rfl ?_
       refine GL.k rfl hK152 (fun _ _ h => h) ?_
       refine G.seqK fun K153 hK154 => ?_
       refine G.tail 12 (by kernel_rfl) (by kernel_rfl) ?_
       have H155 := H150.drew
       generalize ({ w148 with drawn := w148.drawn + 1 } : World) = w156 at H155 ⊢
       refine GS.run (j := 7) 7 [5, 9, 77, 78, 83] [(5, .int .i64 1), (9, .string (strOf m_.b)), (77, pt m 0), (78, .int .i64 1), (83, pt m 1)] (by kernel_rfl) rfl rfl ?_
       refine GS.sem (j := 8) (H155.ld (o := 1) (ty := 36) (v := .slice q1 a1.l.length k1) 0 rfl (by kernel_rfl) rfl) [5, 9, 77, 78, 84] [(5, .int .i64 1), (9, .string (strOf m_.b)), (77, pt m 0), (78, .int .i64 1), (84, .slice q1 a1.l.length k1)] (by kernel_rfl) (by kernel_rfl) rfl rfl ?_
       refine GS.sem (j := 9) (run_tail1 (P := Try.prog) (t := 36) (n := a1.l.length) (c := k1) (A := q1) (by kernel_rfl) (by omega) (by omega)) [5, 9, 77, 78, 85] [(5, .int .i64 1), (9, .string (strOf m_.b)), (77, pt m 0), (78, .int .i64 1), (85, .slice (if k1 = 1 then q1 else q1.map fun a => Addr.add a 1) (a1.l.length - 1) (k1 - 1))] (by kernel_rfl) (by kernel_rfl) rfl rfl ?_
       refine GS.run (j := 12) 3 [5, 9, 85, 88] [(5, .int .i64 1), (9, .string (strOf m_.b)), (85, .slice (if k1 = 1 then q1 else q1.map fun a => Addr.add a 1) (a1.l.length - 1) (k1 - 1)), (88, pt m 1)] (by kernel_rfl) rfl rfl ?_
       refine GS.tail rfl ?_
       obtain ⟨w157, r158, H159⟩ := H155.st (P := Try.prog) (o := 1) (ty := 36) (v := .slice (if k1 = 1 then q1 else q1.map fun a => Addr.add a 1) (a1.l.length - 1) (k1 - 1)) 0 rfl (by kernel_rfl) (by simp) rfl
       have H159 : Hp w S [.blk m [.slice q0 a0.l.length k0, .slice (if k1 = 1 then q1 else q1.map fun a => Addr.add a 1) (a1.l.length - 1) (k1 - 1), .slice q2 a2.l.length k2, .int .i64 (a0.p : Int), .int .i64 0, .int .i64 (a2.p : Int), .bool cl] 39, .que q0 a0.l.length k0 9 (mq a0.l), .que q1 a1.l.length k1 9 (mq a1.l), .que q2 a2.l.length k2 9 (mq a2.l)] w157 := H159
       refine GL.semU (j := 13) r158 [5, 9] [(5, .int .i64 1), (9, .string (strOf m_.b))] (by kernel_rfl) rfl rfl rfl ?_
       refine GL.k rfl hK154 (fun _ _ h => h) ?_
       refine G.seqK fun K160 hK161 => ?_
       refine G.region ?_
       refine GL.run (j := 5) 5 [2, 3, 4] [(2, .string (strOf m_.b)), (3, .int .i64 1), (4, .bool true)] (by kernel_rfl) rfl ?_
       refine GL.k rfl hK161 (fun _ _ h => h) ?_
       refine G.ret ?_
       intro F_ hF_ hM_
       refine hRet _ _ (bodyPost_3 rfl (RV.tmp rfl) (RV.tmp rfl) (RV.tmp rfl) ?_ F_ hF_ hM_)
       have HT := H159.queTail 2 (x := .string (strOf m_.b)) (xs := mq t_) (by rw [← hmq]; rfl) (by rw [mq_length, hlk]; rfl)
       have HZ : Hp w S [.blk m [.slice q0 a0.pass.l.length k0, .slice (if k1 = 1 then q1 else q1.map fun a => Addr.add a 1) ((a1.took t_).l.length) (k1 - 1), .slice q2 a2.pass.l.length k2, .int .i64 (a0.pass.p : Int), .int .i64 (((a1.took t_).p : Nat) : Int), .int .i64 (a2.pass.p : Int), .bool cl] 39, .que q0 a0.pass.l.length k0 9 (mq a0.pass.l), .que (if k1 = 1 then q1 else q1.map fun a => Addr.add a 1) ((a1.took t_).l.length) (k1 - 1) 9 (mq (a1.took t_).l), .que q2 a2.pass.l.length k2 9 (mq a2.pass.l)] w157 := by rw [show (a1.took t_).l.length = a1.l.length - 1 by rw [hlk]; rfl, show a0.pass.p = a0.p by unfold Lane.pass; exact if_pos (by omega), show a2.pass.p = a2.p by unfold Lane.pass; exact if_pos (by omega)]; exact HT
       exact ⟨_, _, rfl, HZ⟩
   · skip
     have hb38f := of_decide_eq_true hb38
     refine G.yes rfl ?_
     refine G.region ?_
     refine GL.run (j := 2) 2 [0, 5, 6] [(0, pt m 0), (5, .int .i64 0), (6, .int .i64 0)] (by kernel_rfl) rfl ?_
     refine GL.k rfl hK35 (fun _ _ h => h) ?_
     refine G.region ?_
     refine GL.run (j := 3) 3 [0, 5, 6] [(0, pt m 0), (5, .int .i64 0), (6, .int .i64 (-1))] (by kernel_rfl) rfl ?_
     refine GL.round rfl ?_
     refine G.seqK fun K162 hK163 => ?_
     refine G.seqK fun K164 hK165 => ?_
     refine G.region ?_
     refine GL.run (j := 2) 2 [0, 5, 6, 11] [(0, pt m 0), (5, .int .i64 0), (6, .int .i64 (-1)), (11, .bool false)] (by kernel_rfl) rfl ?_
     refine GL.k rfl hK165 (fun _ _ h => h) ?_
     refine G.no rfl ?_
     refine G.exitK hK6 (fun _ _ h => h) ?_
     refine G.seqK fun K166 hK167 => ?_
     refine G.seqK fun K168 hK169 => ?_
     refine G.region ?_
     refine GL.run (j := 2) 2 [0, 5, 29] [(0, pt m 0), (5, .int .i64 0), (29, .bool false)] (by kernel_rfl) rfl ?_
     refine GL.k rfl hK169 (fun _ _ h => h) ?_
     refine G.no rfl ?_
     refine G.skipK hK167 (fun _ _ h => h) ?_
     refine G.seqJ (X := Unit) (fun _ => [(0, pt m 0), (5, .int .i64 1)]) (fun _ w_ => (True) ∧ Hp w S [.blk m [.slice q0 a0.l.length k0, .slice q1 a1.l.length k1, .slice q2 a2.l.length k2, .int .i64 (a0.p : Int), .int .i64 (a1.p : Int), .int .i64 (a2.p : Int), .bool cl] 39, .que q0 a0.l.length k0 9 (mq a0.l), .que q1 a1.l.length k1 9 (mq a1.l), .que q2 a2.l.length k2 9 (mq a2.l)] w_) (fun J170 K171 hK172 => ?_) ?_
     · skip
       refine G.seqK fun K173 hK174 => ?_
       refine G.region ?_
       refine GL.run (j := 1) 1 [0, 5, 7] [(0, pt m 0), (5, .int .i64 0), (7, .int .i64 2)] (by kernel_rfl) rfl ?_
       refine GL.k rfl hK174 (fun _ _ h => h) ?_
       refine G.block ?_
       refine G.unroll 3 ?_
       refine G.seqK fun K175 hK176 => ?_
       refine G.seqK fun K177 hK178 => ?_
       refine G.region ?_
       refine GL.run (j := 2) 2 [0, 5, 7, 31] [(0, pt m 0), (5, .int .i64 0), (7, .int .i64 2), (31, .bool true)] (by kernel_rfl) rfl ?_
       refine GL.k rfl hK178 (fun _ _ h => h) ?_
       refine G.yes rfl ?_
       refine G.skipK hK176 (fun _ _ h => h) ?_
       refine G.seqK fun K179 hK180 => ?_
       refine G.block ?_
       refine G.seqK fun K181 hK182 => ?_
       refine G.region ?_
       refine GL.run (j := 5) 5 [0, 5, 7, 38] [(0, pt m 0), (5, .int .i64 0), (7, .int .i64 2), (38, pt m 5)] (by kernel_rfl) rfl ?_
       refine GL.sem (j := 6) (H20.ld (o := 5) (ty := 3) (v := .int .i64 0) 0 rfl (by kernel_rfl) rfl) [0, 5, 7, 39] [(0, pt m 0), (5, .int .i64 0), (7, .int .i64 2), (39, .int .i64 0)] (by kernel_rfl) (by kernel_rfl) rfl ?_
       refine GL.run (j := 7) 1 [0, 5, 7, 40] [(0, pt m 0), (5, .int .i64 0), (7, .int .i64 2), (40, .bool false)] (by kernel_rfl) rfl ?_
       refine GL.k rfl hK182 (fun _ _ h => h) ?_
       refine G.no rfl ?_
       refine G.skipK hK180 (fun _ _ h => h) ?_
       refine G.region ?_
       refine GL.run (j := 3) 3 [0, 5, 7] [(0, pt m 0), (5, .int .i64 0), (7, .int .i64 1)] (by kernel_rfl) rfl ?_
       refine GL.round rfl ?_
       refine G.seqK fun K183 hK184 => ?_
       refine G.seqK fun K185 hK186 => ?_
       refine G.region ?_
       refine GL.run (j := 2) 2 [0, 5, 7, 31] [(0, pt m 0), (5, .int .i64 0), (7, .int .i64 1), (31, .bool true)] (by kernel_rfl) rfl ?_
       refine GL.k rfl hK186 (fun _ _ h => h) ?_
       refine G.yes rfl ?_
       refine G.skipK hK184 (fun _ _ h => h) ?_
       refine G.seqK fun K187 hK188 => ?_
       refine G.block ?_
       refine G.seqK fun K189 hK190 => ?_
       refine G.region ?_
       refine GL.run (j := 5) 5 [0, 5, 7, 38] [(0, pt m 0), (5, .int .i64 0), (7, .int .i64 1), (38, pt m 4)] (by kernel_rfl) rfl ?_
       refine GL.sem (j := 6) (H20.ld (o := 4) (ty := 3) (v := .int .i64 (a1.p : Int)) 0 rfl (by kernel_rfl) rfl) [0, 5, 7, 39] [(0, pt m 0), (5, .int .i64 0), (7, .int .i64 1), (39, .int .i64 (a1.p : Int))] (by kernel_rfl) (by kernel_rfl) rfl ?_
       refine GL.run (j := 7) 1 [0, 5, 7, 40] [(0, pt m 0), (5, .int .i64 0), (7, .int .i64 1), (40, .bool (decide (4 ≤ (a1.p : Int))))] (by kernel_rfl) rfl ?_
       refine GL.k rfl hK190 (fun _ _ h => h) ?_
       cases hb191 : (decide (4 ≤ (a1.p : Int)))
       · skip
         have hb191f := of_decide_eq_false hb191
         refine G.no rfl ?_
         refine G.skipK hK188 (fun _ _ h => h) ?_
         refine G.region ?_
         refine GL.run (j := 3) 3 [0, 5, 7] [(0, pt m 0), (5, .int .i64 0), (7, .int .i64 0)] (by kernel_rfl) rfl ?_
         refine GL.round rfl ?_
         refine G.seqK fun K192 hK193 => ?_
         refine G.seqK fun K194 hK195 => ?_
         refine G.region ?_
         refine GL.run (j := 2) 2 [0, 5, 7, 31] [(0, pt m 0), (5, .int .i64 0), (7, .int .i64 0), (31, .bool true)] (by kernel_rfl) rfl ?_
         refine GL.k rfl hK195 (fun _ _ h => h) ?_
         refine G.yes rfl ?_
         refine G.skipK hK193 (fun _ _ h => h) ?_
         refine G.seqK fun K196 hK197 => ?_
         refine G.block ?_
         refine G.seqK fun K198 hK199 => ?_
         refine G.region ?_
         refine GL.run (j := 5) 5 [0, 5, 7, 38] [(0, pt m 0), (5, .int .i64 0), (7, .int .i64 0), (38, pt m 3)] (by kernel_rfl) rfl ?_
         refine GL.sem (j := 6) (H20.ld (o := 3) (ty := 3) (v := .int .i64 (a0.p : Int)) 0 rfl (by kernel_rfl) rfl) [0, 5, 7, 39] [(0, pt m 0), (5, .int .i64 0), (7, .int .i64 0), (39, .int .i64 (a0.p : Int))] (by kernel_rfl) (by kernel_rfl) rfl ?_
         refine GL.run (j := 7) 1 [0, 5, 7, 40] [(0, pt m 0), (5, .int .i64 0), (7, .int .i64 0), (40, .bool (decide (4 ≤ (a0.p : Int))))] (by kernel_rfl) rfl ?_
         refine GL.k rfl hK199 (fun _ _ h => h) ?_
         cases hb200 : (decide (4 ≤ (a0.p : Int)))
         · skip
           have hb200f := of_decide_eq_false hb200
           refine G.no rfl ?_
           refine G.skipK hK197 (fun _ _ h => h) ?_
           refine G.region ?_
           refine GL.run (j := 3) 3 [0, 5, 7] [(0, pt m 0), (5, .int .i64 0), (7, .int .i64 (-1))] (by kernel_rfl) rfl ?_
           refine GL.round rfl ?_
           refine G.seqK fun K201 hK202 => ?_
           refine G.seqK fun K203 hK204 => ?_
           refine G.region ?_
           refine GL.run (j := 2) 2 [0, 5, 7, 31] [(0, pt m 0), (5, .int .i64 0), (7, .int .i64 (-1)), (31, .bool false)] (by kernel_rfl) rfl ?_
           refine GL.k rfl hK204 (fun _ _ h => h) ?_
           refine G.no rfl ?_
           refine G.exitK hK172 (fun _ _ h => h) ?_
           have e0 : tkN a0 a1 a2 = 0 := by
             unfold tkN
             repeat' split
             all_goals omega
           exact absurd (htk.symm.trans e0) (by decide)
         · skip
           have hb200f := of_decide_eq_true hb200
           refine G.yes rfl ?_
           refine G.region ?_
           refine GL.run (j := 2) 2 [0, 5, 7] [(0, pt m 0), (5, .int .i64 0), (7, .int .i64 0)] (by kernel_rfl) rfl ?_
           refine GL.k rfl hK197 (fun _ _ h => h) ?_
           refine G.region ?_
           refine GL.run (j := 3) 3 [0, 5, 7] [(0, pt m 0), (5, .int .i64 0), (7, .int .i64 (-1))] (by kernel_rfl) rfl ?_
           refine GL.round rfl ?_
           refine G.seqK fun K205 hK206 => ?_
           refine G.seqK fun K207 hK208 => ?_
           refine G.region ?_
           refine GL.run (j := 2) 2 [0, 5, 7, 31] [(0, pt m 0), (5, .int .i64 0), (7, .int .i64 (-1)), (31, .bool false)] (by kernel_rfl) rfl ?_
           refine GL.k rfl hK208 (fun _ _ h => h) ?_
           refine G.no rfl ?_
           refine G.exitK hK172 (fun _ _ h => h) ?_
           have e0 : tkN a0 a1 a2 = 0 := by
             unfold tkN
             repeat' split
             all_goals omega
           exact absurd (htk.symm.trans e0) (by decide)
       · skip
         have hb191f := of_decide_eq_true hb191
         refine G.yes rfl ?_
         refine G.region ?_
         refine GL.run (j := 2) 2 [0, 5, 7] [(0, pt m 0), (5, .int .i64 1), (7, .int .i64 1)] (by kernel_rfl) rfl ?_
         refine GL.k rfl hK188 (fun _ _ h => h) ?_
         refine G.region ?_
         refine GL.run (j := 3) 3 [0, 5, 7] [(0, pt m 0), (5, .int .i64 1), (7, .int .i64 0)] (by kernel_rfl) rfl ?_
         refine GL.round rfl ?_
         refine G.seqK fun K209 hK210 => ?_
         refine G.seqK fun K211 hK212 => ?_
         refine G.region ?_
         refine GL.run (j := 2) 2 [0, 5, 7, 31] [(0, pt m 0), (5, .int .i64 1), (7, .int .i64 0), (31, .bool true)] (by kernel_rfl) rfl ?_
         refine GL.k rfl hK212 (fun _ _ h => h) ?_
         refine G.yes rfl ?_
         refine G.skipK hK210 (fun _ _ h => h) ?_
         refine G.seqK fun K213 hK214 => ?_
         refine G.block ?_
         refine G.seqK fun K215 hK216 => ?_
         refine G.region ?_
         refine GL.run (j := 5) 5 [0, 5, 7, 38] [(0, pt m 0), (5, .int .i64 1), (7, .int .i64 0), (38, pt m 3)] (by kernel_rfl) rfl ?_
         refine GL.sem (j := 6) (H20.ld (o := 3) (ty := 3) (v := .int .i64 (a0.p : Int)) 0 rfl (by kernel_rfl) rfl) [0, 5, 7, 39] [(0, pt m 0), (5, .int .i64 1), (7, .int .i64 0), (39, .int .i64 (a0.p : Int))] (by kernel_rfl) (by kernel_rfl) rfl ?_
         refine GL.run (j := 7) 1 [0, 5, 7, 40] [(0, pt m 0), (5, .int .i64 1), (7, .int .i64 0), (40, .bool (decide (4 ≤ (a0.p : Int))))] (by kernel_rfl) rfl ?_
         refine GL.k rfl hK216 (fun _ _ h => h) ?_
         cases hb217 : (decide (4 ≤ (a0.p : Int)))
         · skip
           have hb217f := of_decide_eq_false hb217
           refine G.no rfl ?_
           refine G.skipK hK214 (fun _ _ h => h) ?_
           refine G.region ?_
           refine GL.run (j := 3) 3 [0, 5, 7] [(0, pt m 0), (5, .int .i64 1), (7, .int .i64 (-1))] (by kernel_rfl) rfl ?_
           refine GL.round rfl ?_
           refine G.seqK fun K218 hK219 => ?_
           refine G.seqK fun K220 hK221 => ?_
           refine G.region ?_
           refine GL.run (j := 2) 2 [0, 5, 7, 31] [(0, pt m 0), (5, .int .i64 1), (7, .int .i64 (-1)), (31, .bool false)] (by kernel_rfl) rfl ?_
           refine GL.k rfl hK221 (fun _ _ h => h) ?_
           refine G.no rfl ?_
           refine G.exitK hK172 (fun _ _ h => h) ?_
           have e0 : tkN a0 a1 a2 = 1 := by
             unfold tkN
             repeat' split
             all_goals omega
           have HZ : Hp w S [.blk m [.slice q0 a0.l.length k0, .slice q1 a1.l.length k1, .slice q2 a2.l.length k2, .int .i64 (a0.p : Int), .int .i64 (a1.p : Int), .int .i64 (a2.p : Int), .bool cl] 39, .que q0 a0.l.length k0 9 (mq a0.l), .que q1 a1.l.length k1 9 (mq a1.l), .que q2 a2.l.length k2 9 (mq a2.l)] w18 := by rw [show a2.p = 0 from hz2.1 (by omega)]; exact H20
           refine G.fit [0, 5] (M' := [(0, pt m 0), (5, .int .i64 1)]) (by kernel_rfl) ?_
           exact J170 () _ ⟨trivial, HZ⟩
         · skip
           have hb217f := of_decide_eq_true hb217
           refine G.yes rfl ?_
           refine G.region ?_
           refine GL.run (j := 2) 2 [0, 5, 7] [(0, pt m 0), (5, .int .i64 0), (7, .int .i64 0)] (by kernel_rfl) rfl ?_
           refine GL.k rfl hK214 (fun _ _ h => h) ?_
           refine G.region ?_
           refine GL.run (j := 3) 3 [0, 5, 7] [(0, pt m 0), (5, .int .i64 0), (7, .int .i64 (-1))] (by kernel_rfl) rfl ?_
           refine GL.round rfl ?_
           refine G.seqK fun K222 hK223 => ?_
           refine G.seqK fun K224 hK225 => ?_
           refine G.region ?_
           refine GL.run (j := 2) 2 [0, 5, 7, 31] [(0, pt m 0), (5, .int .i64 0), (7, .int .i64 (-1)), (31, .bool false)] (by kernel_rfl) rfl ?_
           refine GL.k rfl hK225 (fun _ _ h => h) ?_
           refine G.no rfl ?_
           refine G.exitK hK172 (fun _ _ h => h) ?_
           have e0 : tkN a0 a1 a2 = 0 := by
             unfold tkN
             repeat' split
             all_goals omega
           exact absurd (htk.symm.trans e0) (by decide)
     · skip
       rintro _ w226 ⟨hi227, H228⟩
       refine G.eq (M' := [(0, pt m 0), (5, .int .i64 1)]) rfl ?_
       have H228 : Hp w S [.blk m [.slice q0 a0.l.length k0, .slice q1 a1.l.length k1, .slice q2 a2.l.length k2, .int .i64 (a0.p : Int), .int .i64 (a1.p : Int), .int .i64 (a2.p : Int), .bool cl] 39, .que q0 a0.l.length k0 9 (mq a0.l), .que q1 a1.l.length k1 9 (mq a1.l), .que q2 a2.l.length k2 9 (mq a2.l)] w226 := H228
       refine G.seqK fun K229 hK230 => ?_
       refine G.seqK fun K231 hK232 => ?_
       refine G.region ?_
       refine GL.run (j := 1) 1 [0, 5, 42] [(0, pt m 0), (5, .int .i64 1), (42, .int .i64 0)] (by kernel_rfl) rfl ?_
       refine GL.k rfl hK232 (fun _ _ h => h) ?_
       refine G.block ?_
       refine G.unroll 3 ?_
       refine G.seqK fun K233 hK234 => ?_
       refine G.region ?_
       refine GL.run (j := 1) 1 [0, 5, 42, 43] [(0, pt m 0), (5, .int .i64 1), (42, .int .i64 0), (43, .bool true)] (by kernel_rfl) rfl ?_
       refine GL.k rfl hK234 (fun _ _ h => h) ?_
       refine G.seqK fun K235 hK236 => ?_
       refine G.yes rfl ?_
       refine G.skipK hK236 (fun _ _ h => h) ?_
       refine G.seqK fun K237 hK238 => ?_
       refine G.block ?_
       refine G.seqK fun K239 hK240 => ?_
       refine G.region ?_
       refine GL.run (j := 2) 2 [0, 5, 8, 42] [(0, pt m 0), (5, .int .i64 1), (8, .int .i64 0), (42, .int .i64 0)] (by kernel_rfl) rfl ?_
       refine GL.k rfl hK240 (fun _ _ h => h) ?_
       refine G.seqK fun K241 hK242 => ?_
       refine G.region ?_
       refine GL.run (j := 5) 5 [0, 5, 8, 42, 49] [(0, pt m 0), (5, .int .i64 1), (8, .int .i64 0), (42, .int .i64 0), (49, pt m 0)] (by kernel_rfl) rfl ?_
       refine GL.sem (j := 6) (H228.ld (o := 0) (ty := 36) (v := .slice q0 a0.l.length k0) 0 rfl (by kernel_rfl) rfl) [0, 5, 8, 42, 50] [(0, pt m 0), (5, .int .i64 1), (8, .int .i64 0), (42, .int .i64 0), (50, .slice q0 a0.l.length k0)] (by kernel_rfl) (by kernel_rfl) rfl ?_
       refine GL.run (j := 8) 2 [0, 5, 8, 42, 52] [(0, pt m 0), (5, .int .i64 1), (8, .int .i64 0), (42, .int .i64 0), (52, .bool (decide (0 < (a0.l.length : Int))))] (by kernel_rfl) rfl ?_
       refine GL.k rfl hK242 (fun _ _ h => h) ?_
       have hb243 : (decide (0 < (a0.l.length : Int))) = true := by assumption
       rw [hb243]
       refine G.yes rfl ?_
       refine G.tail 10 (by kernel_rfl) (by kernel_rfl) ?_
       have H244 := H228.drew
       generalize ({ w226 with drawn := w226.drawn + 1 } : World) = w245 at H244 ⊢
       refine GS.run (j := 5) 5 [0, 5, 42, 53, 54, 57] [(0, pt m 0), (5, .int .i64 1), (42, .int .i64 0), (53, pt m 0), (54, .int .i64 0), (57, pt m 3)] (by kernel_rfl) rfl rfl ?_
       refine GS.sem (j := 6) (H244.ld (o := 3) (ty := 3) (v := .int .i64 (a0.p : Int)) 0 rfl (by kernel_rfl) rfl) [0, 5, 42, 53, 54, 58] [(0, pt m 0), (5, .int .i64 1), (42, .int .i64 0), (53, pt m 0), (54, .int .i64 0), (58, .int .i64 (a0.p : Int))] (by kernel_rfl) (by kernel_rfl) rfl rfl ?_
       refine GS.run (j := 10) 4 [0, 5, 42, 59, 62] [(0, pt m 0), (5, .int .i64 1), (42, .int .i64 0), (59, .int .i64 (IntKind.i64.wrap ((a0.p : Int) + 1))), (62, pt m 3)] (by kernel_rfl) rfl rfl ?_
       have e246 : (IntKind.i64.wrap ((a0.p : Int) + 1)) = ((a0.p + 1 : Nat) : Int) := by rw [in_i64 (by omega)]; omega
       refine GS.eq (M' := [(0, pt m 0), (5, .int .i64 1), (42, .int .i64 0), (59, .int .i64 ((a0.p + 1 : Nat) : Int)), (62, pt m 3)]) (by rw [e246]) ?_
       clear e246
       refine GS.tail rfl ?_
       obtain ⟨w247, r248, H249⟩ := H244.st (P := Try.prog) (o := 3) (ty := 3) (v := .int .i64 ((a0.p + 1 : Nat) : Int)) 0 rfl (by kernel_rfl) (by simp) rfl
       have H249 : Hp w S [.blk m [.slice q0 a0.l.length k0, .slice q1 a1.l.length k1, .slice q2 a2.l.length k2, .int .i64 ((a0.p + 1 : Nat) : Int), .int .i64 (a1.p : Int), .int .i64 (a2.p : Int), .bool cl] 39, .que q0 a0.l.length k0 9 (mq a0.l), .que q1 a1.l.length k1 9 (mq a1.l), .que q2 a2.l.length k2 9 (mq a2.l)] w247 := H249
       refine GL.semU (j := 11) r248 [0, 5, 42] [(0, pt m 0), (5, .int .i64 1), (42, .int .i64 0)] (by kernel_rfl) rfl rfl rfl ?_
       refine GL.k rfl hK238 (fun _ _ h => h) ?_
       refine G.region ?_
       refine GL.run (j := 2) 2 [0, 5, 42] [(0, pt m 0), (5, .int .i64 1), (42, .int .i64 1)] (by kernel_rfl) rfl ?_
       refine GL.round rfl ?_
       refine G.seqK fun K250 hK251 => ?_
       refine G.region ?_
       refine GL.run (j := 1) 1 [0, 5, 42, 43] [(0, pt m 0), (5, .int .i64 1), (42, .int .i64 1), (43, .bool true)] (by kernel_rfl) rfl ?_
       refine GL.k rfl hK251 (fun _ _ h => h) ?_
       refine G.seqK fun K252 hK253 => ?_
       refine G.yes rfl ?_
       refine G.skipK hK253 (fun _ _ h => h) ?_
       refine G.seqK fun K254 hK255 => ?_
       refine G.block ?_
       refine G.seqK fun K256 hK257 => ?_
       refine G.region ?_
       refine GL.run (j := 2) 2 [0, 5, 8, 42] [(0, pt m 0), (5, .int .i64 1), (8, .int .i64 1), (42, .int .i64 1)] (by kernel_rfl) rfl ?_
       refine GL.k rfl hK257 (fun _ _ h => h) ?_
       refine G.seqK fun K258 hK259 => ?_
       refine G.region ?_
       refine GL.run (j := 5) 5 [0, 5, 8, 42, 49] [(0, pt m 0), (5, .int .i64 1), (8, .int .i64 1), (42, .int .i64 1), (49, pt m 1)] (by kernel_rfl) rfl ?_
       refine GL.sem (j := 6) (H249.ld (o := 1) (ty := 36) (v := .slice q1 a1.l.length k1) 0 rfl (by kernel_rfl) rfl) [0, 5, 8, 42, 50] [(0, pt m 0), (5, .int .i64 1), (8, .int .i64 1), (42, .int .i64 1), (50, .slice q1 a1.l.length k1)] (by kernel_rfl) (by kernel_rfl) rfl ?_
       refine GL.run (j := 8) 2 [0, 5, 8, 42, 52] [(0, pt m 0), (5, .int .i64 1), (8, .int .i64 1), (42, .int .i64 1), (52, .bool (decide (0 < (a1.l.length : Int))))] (by kernel_rfl) rfl ?_
       refine GL.k rfl hK259 (fun _ _ h => h) ?_
       have hb260 : (decide (0 < (a1.l.length : Int))) = true := by assumption
       rw [hb260]
       refine G.yes rfl ?_
       refine G.tail 10 (by kernel_rfl) (by kernel_rfl) ?_
       have H261 := H249.drew
       generalize ({ w247 with drawn := w247.drawn + 1 } : World) = w262 at H261 ⊢
       refine GS.run (j := 5) 5 [0, 5, 42, 53, 54, 57] [(0, pt m 0), (5, .int .i64 1), (42, .int .i64 1), (53, pt m 0), (54, .int .i64 1), (57, pt m 4)] (by kernel_rfl) rfl rfl ?_
       refine GS.sem (j := 6) (H261.ld (o := 4) (ty := 3) (v := .int .i64 (a1.p : Int)) 0 rfl (by kernel_rfl) rfl) [0, 5, 42, 53, 54, 58] [(0, pt m 0), (5, .int .i64 1), (42, .int .i64 1), (53, pt m 0), (54, .int .i64 1), (58, .int .i64 (a1.p : Int))] (by kernel_rfl) (by kernel_rfl) rfl rfl ?_
       refine GS.run (j := 10) 4 [0, 5, 42, 59, 62] [(0, pt m 0), (5, .int .i64 1), (42, .int .i64 1), (59, .int .i64 (IntKind.i64.wrap ((a1.p : Int) + 1))), (62, pt m 4)] (by kernel_rfl) rfl rfl ?_
       have e263 : (IntKind.i64.wrap ((a1.p : Int) + 1)) = ((a1.p + 1 : Nat) : Int) := by rw [in_i64 (by omega)]; omega
       refine GS.eq (M' := [(0, pt m 0), (5, .int .i64 1), (42, .int .i64 1), (59, .int .i64 ((a1.p + 1 : Nat) : Int)), (62, pt m 4)]) (by rw [e263]) ?_
       clear e263
       refine GS.tail rfl ?_
       obtain ⟨w264, r265, H266⟩ := H261.st (P := Try.prog) (o := 4) (ty := 3) (v := .int .i64 ((a1.p + 1 : Nat) : Int)) 0 rfl (by kernel_rfl) (by simp) rfl
       have H266 : Hp w S [.blk m [.slice q0 a0.l.length k0, .slice q1 a1.l.length k1, .slice q2 a2.l.length k2, .int .i64 ((a0.p + 1 : Nat) : Int), .int .i64 ((a1.p + 1 : Nat) : Int), .int .i64 (a2.p : Int), .bool cl] 39, .que q0 a0.l.length k0 9 (mq a0.l), .que q1 a1.l.length k1 9 (mq a1.l), .que q2 a2.l.length k2 9 (mq a2.l)] w264 := H266
       refine GL.semU (j := 11) r265 [0, 5, 42] [(0, pt m 0), (5, .int .i64 1), (42, .int .i64 1)] (by kernel_rfl) rfl rfl rfl ?_
       refine GL.k rfl hK255 (fun _ _ h => h) ?_
       refine G.region ?_
       refine GL.run (j := 2) 2 [0, 5, 42] [(0, pt m 0), (5, .int .i64 1), (42, .int .i64 2)] (by kernel_rfl) rfl ?_
       refine GL.round rfl ?_
       refine G.seqK fun K267 hK268 => ?_
       refine G.region ?_
       refine GL.run (j := 1) 1 [0, 5, 42, 43] [(0, pt m 0), (5, .int .i64 1), (42, .int .i64 2), (43, .bool true)] (by kernel_rfl) rfl ?_
       refine GL.k rfl hK268 (fun _ _ h => h) ?_
       refine G.seqK fun K269 hK270 => ?_
       refine G.yes rfl ?_
       refine G.skipK hK270 (fun _ _ h => h) ?_
       refine G.seqK fun K271 hK272 => ?_
       refine G.block ?_
       refine G.seqK fun K273 hK274 => ?_
       refine G.region ?_
       refine GL.run (j := 2) 2 [0, 5, 8, 42] [(0, pt m 0), (5, .int .i64 1), (8, .int .i64 2), (42, .int .i64 2)] (by kernel_rfl) rfl ?_
       refine GL.k rfl hK274 (fun _ _ h => h) ?_
       refine G.seqK fun K275 hK276 => ?_
       refine G.region ?_
       refine GL.run (j := 5) 5 [0, 5, 8, 42, 49] [(0, pt m 0), (5, .int .i64 1), (8, .int .i64 2), (42, .int .i64 2), (49, pt m 2)] (by kernel_rfl) rfl ?_
       refine GL.sem (j := 6) (H266.ld (o := 2) (ty := 36) (v := .slice q2 a2.l.length k2) 0 rfl (by kernel_rfl) rfl) [0, 5, 8, 42, 50] [(0, pt m 0), (5, .int .i64 1), (8, .int .i64 2), (42, .int .i64 2), (50, .slice q2 a2.l.length k2)] (by kernel_rfl) (by kernel_rfl) rfl ?_
       refine GL.run (j := 8) 2 [0, 5, 8, 42, 52] [(0, pt m 0), (5, .int .i64 1), (8, .int .i64 2), (42, .int .i64 2), (52, .bool (decide (0 < (a2.l.length : Int))))] (by kernel_rfl) rfl ?_
       refine GL.k rfl hK276 (fun _ _ h => h) ?_
       have hb277 : (decide (0 < (a2.l.length : Int))) = false := by assumption
       rw [hb277]
       refine G.no rfl ?_
       refine G.skipK hK272 (fun _ _ h => h) ?_
       refine G.region ?_
       refine GL.run (j := 2) 2 [0, 5, 42] [(0, pt m 0), (5, .int .i64 1), (42, .int .i64 3)] (by kernel_rfl) rfl ?_
       refine GL.round rfl ?_
       refine G.seqK fun K278 hK279 => ?_
       refine G.region ?_
       refine GL.run (j := 1) 1 [0, 5, 42, 43] [(0, pt m 0), (5, .int .i64 1), (42, .int .i64 3), (43, .bool false)] (by kernel_rfl) rfl ?_
       refine GL.k rfl hK279 (fun _ _ h => h) ?_
       refine G.seqK fun K280 hK281 => ?_
       refine G.no rfl ?_
       refine G.exitK hK230 (fun _ _ h => h) ?_
       refine G.seqK fun K282 hK283 => ?_
       refine G.region ?_
       refine GL.run (j := 5) 5 [0, 5, 68] [(0, pt m 0), (5, .int .i64 1), (68, pt m 4)] (by kernel_rfl) rfl ?_
       obtain ⟨w284, r285, H286⟩ := H266.st (P := Try.prog) (o := 4) (ty := 3) (v := .int .i64 0) 0 rfl (by kernel_rfl) (by simp) rfl
       have H286 : Hp w S [.blk m [.slice q0 a0.l.length k0, .slice q1 a1.l.length k1, .slice q2 a2.l.length k2, .int .i64 ((a0.p + 1 : Nat) : Int), .int .i64 0, .int .i64 (a2.p : Int), .bool cl] 39, .que q0 a0.l.length k0 9 (mq a0.l), .que q1 a1.l.length k1 9 (mq a1.l), .que q2 a2.l.length k2 9 (mq a2.l)] w284 := H286
       refine GL.semU (j := 6) r285 [0, 5] [(0, pt m 0), (5, .int .i64 1)] (by kernel_rfl) rfl rfl rfl ?_
       refine GL.k rfl hK283 (fun _ _ h => h) ?_
       refine G.seqK fun K287 hK288 => ?_
       refine G.region ?_
       refine GL.run (j := 5) 5 [0, 5, 73] [(0, pt m 0), (5, .int .i64 1), (73, pt m 1)] (by kernel_rfl) rfl ?_
       refine GL.sem (j := 6) (H286.ld (o := 1) (ty := 36) (v := .slice q1 a1.l.length k1) 0 rfl (by kernel_rfl) rfl) [0, 5, 74] [(0, pt m 0), (5, .int .i64 1), (74, .slice q1 a1.l.length k1)] (by kernel_rfl) (by kernel_rfl) rfl ?_
       refine GL.sem (j := 7) (run_idxRd (P := Try.prog) (k := .i64) (t := 36) (A := q1) (len := a1.l.length) (cap := k1) (j := 0) (by kernel_rfl) rfl (H286.rdQue 2 rfl) (mq_length _) (by omega)) [0, 5, 75] [(0, pt m 0), (5, .int .i64 1), (75, .pointer (Option.map (fun x => Addr.add x 0) q1))] (by kernel_rfl) (by kernel_rfl) rfl ?_
       refine GL.sem (j := 8) (run_ldRd (P := Try.prog) (ty := 9) (A := q1) (j := 0) (v := .string (strOf m_.b)) (by kernel_rfl) (H286.rdQue 2 rfl) (by rw [hmq]; rfl)) [0, 5, 76] [(0, pt m 0), (5, .int .i64 1), (76, .string (strOf m_.b))] (by kernel_rfl) (by kernel_rfl) rfl ?_
       refine GL.run (j := 9) 1 [0, 5, 9] [(0, pt m 0), (5, .int .i64 1), (9, .string (strOf m_.b))] (by kernel_rfl) rfl ?_
       refine GL.k rfl hK288 (fun _ _ h => h) ?_
       refine G.seqK fun K289 hK290 => ?_
       refine G.tail 12 (by kernel_rfl) (by kernel_rfl) ?_
       have H291 := H286.drew
       generalize ({ w284 with drawn := w284.drawn + 1 } : World) = w292 at H291 ⊢
       refine GS.run (j := 7) 7 [5, 9, 77, 78, 83] [(5, .int .i64 1), (9, .string (strOf m_.b)), (77, pt m 0), (78, .int .i64 1), (83, pt m 1)] (by kernel_rfl) rfl rfl ?_
       refine GS.sem (j := 8) (H291.ld (o := 1) (ty := 36) (v := .slice q1 a1.l.length k1) 0 rfl (by kernel_rfl) rfl) [5, 9, 77, 78, 84] [(5, .int .i64 1), (9, .string (strOf m_.b)), (77, pt m 0), (78, .int .i64 1), (84, .slice q1 a1.l.length k1)] (by kernel_rfl) (by kernel_rfl) rfl rfl ?_
       refine GS.sem (j := 9) (run_tail1 (P := Try.prog) (t := 36) (n := a1.l.length) (c := k1) (A := q1) (by kernel_rfl) (by omega) (by omega)) [5, 9, 77, 78, 85] [(5, .int .i64 1), (9, .string (strOf m_.b)), (77, pt m 0), (78, .int .i64 1), (85, .slice (if k1 = 1 then q1 else q1.map fun a => Addr.add a 1) (a1.l.length - 1) (k1 - 1))] (by kernel_rfl) (by kernel_rfl) rfl rfl ?_
       refine GS.run (j := 12) 3 [5, 9, 85, 88] [(5, .int .i64 1), (9, .string (strOf m_.b)), (85, .slice (if k1 = 1 then q1 else q1.map fun a => Addr.add a 1) (a1.l.length - 1) (k1 - 1)), (88, pt m 1)] (by kernel_rfl) rfl rfl ?_
       refine GS.tail rfl ?_
       obtain ⟨w293, r294, H295⟩ := H291.st (P := Try.prog) (o := 1) (ty := 36) (v := .slice (if k1 = 1 then q1 else q1.map fun a => Addr.add a 1) (a1.l.length - 1) (k1 - 1)) 0 rfl (by kernel_rfl) (by simp) rfl
       have H295 : Hp w S [.blk m [.slice q0 a0.l.length k0, .slice (if k1 = 1 then q1 else q1.map fun a => Addr.add a 1) (a1.l.length - 1) (k1 - 1), .slice q2 a2.l.length k2, .int .i64 ((a0.p + 1 : Nat) : Int), .int .i64 0, .int .i64 (a2.p : Int), .bool cl] 39, .que q0 a0.l.length k0 9 (mq a0.l), .que q1 a1.l.length k1 9 (mq a1.l), .que q2 a2.l.length k2 9 (mq a2.l)] w293 := H295
       refine GL.semU (j := 13) r294 [5, 9] [(5, .int .i64 1), (9, .string (strOf m_.b))] (by kernel_rfl) rfl rfl rfl ?_
       refine GL.k rfl hK290 (fun _ _ h => h) ?_
       refine G.seqK fun K296 hK297 => ?_
       refine G.region ?_
       refine GL.run (j := 5) 5 [2, 3, 4] [(2, .string (strOf m_.b)), (3, .int .i64 1), (4, .bool true)] (by kernel_rfl) rfl ?_
       refine GL.k rfl hK297 (fun _ _ h => h) ?_
       refine G.ret ?_
       intro F_ hF_ hM_
       refine hRet _ _ (bodyPost_3 rfl (RV.tmp rfl) (RV.tmp rfl) (RV.tmp rfl) ?_ F_ hF_ hM_)
       have HT := H295.queTail 2 (x := .string (strOf m_.b)) (xs := mq t_) (by rw [← hmq]; rfl) (by rw [mq_length, hlk]; rfl)
       have HZ : Hp w S [.blk m [.slice q0 a0.pass.l.length k0, .slice (if k1 = 1 then q1 else q1.map fun a => Addr.add a 1) ((a1.took t_).l.length) (k1 - 1), .slice q2 a2.pass.l.length k2, .int .i64 (a0.pass.p : Int), .int .i64 (((a1.took t_).p : Nat) : Int), .int .i64 (a2.pass.p : Int), .bool cl] 39, .que q0 a0.pass.l.length k0 9 (mq a0.pass.l), .que (if k1 = 1 then q1 else q1.map fun a => Addr.add a 1) ((a1.took t_).l.length) (k1 - 1) 9 (mq (a1.took t_).l), .que q2 a2.pass.l.length k2 9 (mq a2.pass.l)] w293 := by rw [show (a1.took t_).l.length = a1.l.length - 1 by rw [hlk]; rfl, show a0.pass.p = a0.p + 1 by unfold Lane.pass; exact if_neg (by omega), show a2.pass.p = a2.p by unfold Lane.pass; exact if_pos (by omega)]; exact HT
       exact ⟨_, _, rfl, HZ⟩
 · skip
   have hb17f := of_decide_eq_true hb17
   refine G.yes rfl ?_
   refine G.region ?_
   refine GL.run (j := 2) 2 [0, 5, 6] [(0, pt m 0), (5, .int .i64 2), (6, .int .i64 2)] (by kernel_rfl) rfl ?_
   refine GL.k rfl hK14 (fun _ _ h => h) ?_
   refine G.region ?_
   refine GL.run (j := 3) 3 [0, 5, 6] [(0, pt m 0), (5, .int .i64 2), (6, .int .i64 1)] (by kernel_rfl) rfl ?_
   refine GL.round rfl ?_
   refine G.seqK fun K298 hK299 => ?_
   refine G.seqK fun K300 hK301 => ?_
   refine G.region ?_
   refine GL.run (j := 2) 2 [0, 5, 6, 11] [(0, pt m 0), (5, .int .i64 2), (6, .int .i64 1), (11, .bool true)] (by kernel_rfl) rfl ?_
   refine GL.k rfl hK301 (fun _ _ h => h) ?_
   refine G.yes rfl ?_
   refine G.skipK hK299 (fun _ _ h => h) ?_
   refine G.seqK fun K302 hK303 => ?_
   refine G.block ?_
   refine G.seqK fun K304 hK305 => ?_
   refine G.region ?_
   refine GL.run (j := 5) 5 [0, 5, 6, 18] [(0, pt m 0), (5, .int .i64 2), (6, .int .i64 1), (18, pt m 1)] (by kernel_rfl) rfl ?_
   refine GL.sem (j := 6) (H.ld (o := 1) (ty := 36) (v := .slice q1 a1.l.length k1) 0 rfl (by kernel_rfl) rfl) [0, 5, 6, 19] [(0, pt m 0), (5, .int .i64 2), (6, .int .i64 1), (19, .slice q1 a1.l.length k1)] (by kernel_rfl) (by kernel_rfl) rfl ?_
   refine GL.run (j := 8) 2 [0, 5, 6, 21] [(0, pt m 0), (5, .int .i64 2), (6, .int .i64 1), (21, .bool (decide (0 < (a1.l.length : Int))))] (by kernel_rfl) rfl ?_
   refine GL.k rfl hK305 (fun _ _ h => h) ?_
   have hb306 : (decide (0 < (a1.l.length : Int))) = true := decide_eq_true (by omega)
   rw [hb306]
   refine G.yes rfl ?_
   refine G.region ?_
   refine GL.run (j := 2) 2 [0, 5, 6] [(0, pt m 0), (5, .int .i64 1), (6, .int .i64 1)] (by kernel_rfl) rfl ?_
   refine GL.k rfl hK303 (fun _ _ h => h) ?_
   refine G.region ?_
   refine GL.run (j := 3) 3 [0, 5, 6] [(0, pt m 0), (5, .int .i64 1), (6, .int .i64 0)] (by kernel_rfl) rfl ?_
   refine GL.round rfl ?_
   refine G.seqK fun K307 hK308 => ?_
   refine G.seqK fun K309 hK310 => ?_
   refine G.region ?_
   refine GL.run (j := 2) 2 [0, 5, 6, 11] [(0, pt m 0), (5, .int .i64 1), (6, .int .i64 0), (11, .bool true)] (by kernel_rfl) rfl ?_
   refine GL.k rfl hK310 (fun _ _ h => h) ?_
   refine G.yes rfl ?_
   refine G.skipK hK308 (fun _ _ h => h) ?_
   refine G.seqK fun K311 hK312 => ?_
   refine G.block ?_
   refine G.seqK fun K313 hK314 => ?_
   refine G.region ?_
   refine GL.run (j := 5) 5 [0, 5, 6, 18] [(0, pt m 0), (5, .int .i64 1), (6, .int .i64 0), (18, pt m 0)] (by kernel_rfl) rfl ?_
   refine GL.sem (j := 6) (H.ld (o := 0) (ty := 36) (v := .slice q0 a0.l.length k0) 0 rfl (by kernel_rfl) rfl) [0, 5, 6, 19] [(0, pt m 0), (5, .int .i64 1), (6, .int .i64 0), (19, .slice q0 a0.l.length k0)] (by kernel_rfl) (by kernel_rfl) rfl ?_
   refine GL.run (j := 8) 2 [0, 5, 6, 21] [(0, pt m 0), (5, .int .i64 1), (6, .int .i64 0), (21, .bool (decide (0 < (a0.l.length : Int))))] (by kernel_rfl) rfl ?_
   refine GL.k rfl hK314 (fun _ _ h => h) ?_
   cases hb315 : (decide (0 < (a0.l.length : Int)))
   · skip
     have hb315f := of_decide_eq_false hb315
     refine G.no rfl ?_
     refine G.region ?_
     refine GL.run (j := 5) 5 [0, 5, 6, 27] [(0, pt m 0), (5, .int .i64 1), (6, .int .i64 0), (27, pt m 3)] (by kernel_rfl) rfl ?_
     obtain ⟨w316, r317, H318⟩ := H.st (P := Try.prog) (o := 3) (ty := 3) (v := .int .i64 0) 0 rfl (by kernel_rfl) (by simp) rfl
     have H318 : Hp w S [.blk m [.slice q0 a0.l.length k0, .slice q1 a1.l.length k1, .slice q2 a2.l.length k2, .int .i64 0, .int .i64 (a1.p : Int), .int .i64 (a2.p : Int), .bool cl] 39, .que q0 a0.l.length k0 9 (mq a0.l), .que q1 a1.l.length k1 9 (mq a1.l), .que q2 a2.l.length k2 9 (mq a2.l)] w316 := H318
     refine GL.semU (j := 6) r317 [0, 5, 6] [(0, pt m 0), (5, .int .i64 1), (6, .int .i64 0)] (by kernel_rfl) rfl rfl rfl ?_
     refine GL.k rfl hK312 (fun _ _ h => h) ?_
     refine G.region ?_
     refine GL.run (j := 3) 3 [0, 5, 6] [(0, pt m 0), (5, .int .i64 1), (6, .int .i64 (-1))] (by kernel_rfl) rfl ?_
     refine GL.round rfl ?_
     refine G.seqK fun K319 hK320 => ?_
     refine G.seqK fun K321 hK322 => ?_
     refine G.region ?_
     refine GL.run (j := 2) 2 [0, 5, 6, 11] [(0, pt m 0), (5, .int .i64 1), (6, .int .i64 (-1)), (11, .bool false)] (by kernel_rfl) rfl ?_
     refine GL.k rfl hK322 (fun _ _ h => h) ?_
     refine G.no rfl ?_
     refine G.exitK hK6 (fun _ _ h => h) ?_
     refine G.seqK fun K323 hK324 => ?_
     refine G.seqK fun K325 hK326 => ?_
     refine G.region ?_
     refine GL.run (j := 2) 2 [0, 5, 29] [(0, pt m 0), (5, .int .i64 1), (29, .bool false)] (by kernel_rfl) rfl ?_
     refine GL.k rfl hK326 (fun _ _ h => h) ?_
     refine G.no rfl ?_
     refine G.skipK hK324 (fun _ _ h => h) ?_
     refine G.seqJ (X := Unit) (fun _ => [(0, pt m 0), (5, .int .i64 1)]) (fun _ w_ => (True) ∧ Hp w S [.blk m [.slice q0 a0.l.length k0, .slice q1 a1.l.length k1, .slice q2 a2.l.length k2, .int .i64 (a0.p : Int), .int .i64 (a1.p : Int), .int .i64 (a2.p : Int), .bool cl] 39, .que q0 a0.l.length k0 9 (mq a0.l), .que q1 a1.l.length k1 9 (mq a1.l), .que q2 a2.l.length k2 9 (mq a2.l)] w_) (fun J327 K328 hK329 => ?_) ?_
     · skip
       refine G.seqK fun K330 hK331 => ?_
       refine G.region ?_
       refine GL.run (j := 1) 1 [0, 5, 7] [(0, pt m 0), (5, .int .i64 1), (7, .int .i64 2)] (by kernel_rfl) rfl ?_
       refine GL.k rfl hK331 (fun _ _ h => h) ?_
       refine G.block ?_
       refine G.unroll 3 ?_
       refine G.seqK fun K332 hK333 => ?_
       refine G.seqK fun K334 hK335 => ?_
       refine G.region ?_
       refine GL.run (j := 2) 2 [0, 5, 7, 31] [(0, pt m 0), (5, .int .i64 1), (7, .int .i64 2), (31, .bool true)] (by kernel_rfl) rfl ?_
       refine GL.k rfl hK335 (fun _ _ h => h) ?_
       refine G.yes rfl ?_
       refine G.skipK hK333 (fun _ _ h => h) ?_
       refine G.seqK fun K336 hK337 => ?_
       refine G.block ?_
       refine G.seqK fun K338 hK339 => ?_
       refine G.region ?_
       refine GL.run (j := 5) 5 [0, 5, 7, 38] [(0, pt m 0), (5, .int .i64 1), (7, .int .i64 2), (38, pt m 5)] (by kernel_rfl) rfl ?_
       refine GL.sem (j := 6) (H318.ld (o := 5) (ty := 3) (v := .int .i64 (a2.p : Int)) 0 rfl (by kernel_rfl) rfl) [0, 5, 7, 39] [(0, pt m 0), (5, .int .i64 1), (7, .int .i64 2), (39, .int .i64 (a2.p : Int))] (by kernel_rfl) (by kernel_rfl) rfl ?_
       refine GL.run (j := 7) 1 [0, 5, 7, 40] [(0, pt m 0), (5, .int .i64 1), (7, .int .i64 2), (40, .bool (decide (4 ≤ (a2.p : Int))))] (by kernel_rfl) rfl ?_
       refine GL.k rfl hK339 (fun _ _ h => h) ?_
       cases hb340 : (decide (4 ≤ (a2.p : Int)))
       · skip
         have hb340f := of_decide_eq_false hb340
         refine G.no rfl ?_
         refine G.skipK hK337 (fun _ _ h => h) ?_
         refine G.region ?_
         refine GL.run (j := 3) 3 [0, 5, 7] [(0, pt m 0), (5, .int .i64 1), (7, .int .i64 1)] (by kernel_rfl) rfl ?_
         refine GL.round rfl ?_
         refine G.seqK fun K341 hK342 => ?_
         refine G.seqK fun K343 hK344 => ?_
         refine G.region ?_
         refine GL.run (j := 2) 2 [0, 5, 7, 31] [(0, pt m 0), (5, .int .i64 1), (7, .int .i64 1), (31, .bool true)] (by kernel_rfl) rfl ?_
         refine GL.k rfl hK344 (fun _ _ h => h) ?_
         refine G.yes rfl ?_
         refine G.skipK hK342 (fun _ _ h => h) ?_
         refine G.seqK fun K345 hK346 => ?_
         refine G.block ?_
         refine G.seqK fun K347 hK348 => ?_
         refine G.region ?_
         refine GL.run (j := 5) 5 [0, 5, 7, 38] [(0, pt m 0), (5, .int .i64 1), (7, .int .i64 1), (38, pt m 4)] (by kernel_rfl) rfl ?_
         refine GL.sem (j := 6) (H318.ld (o := 4) (ty := 3) (v := .int .i64 (a1.p : Int)) 0 rfl (by kernel_rfl) rfl) [0, 5, 7, 39] [(0, pt m 0), (5, .int .i64 1), (7, .int .i64 1), (39, .int .i64 (a1.p : Int))] (by kernel_rfl) (by kernel_rfl) rfl ?_
         refine GL.run (j := 7) 1 [0, 5, 7, 40] [(0, pt m 0), (5, .int .i64 1), (7, .int .i64 1), (40, .bool (decide (4 ≤ (a1.p : Int))))] (by kernel_rfl) rfl ?_
         refine GL.k rfl hK348 (fun _ _ h => h) ?_
         cases hb349 : (decide (4 ≤ (a1.p : Int)))
         · skip
           have hb349f := of_decide_eq_false hb349
           refine G.no rfl ?_
           refine G.skipK hK346 (fun _ _ h => h) ?_
           refine G.region ?_
           refine GL.run (j := 3) 3 [0, 5, 7] [(0, pt m 0), (5, .int .i64 1), (7, .int .i64 0)] (by kernel_rfl) rfl ?_
           refine GL.round rfl ?_
           refine G.seqK fun K350 hK351 => ?_
           refine G.seqK fun K352 hK353 => ?_
           refine G.region ?_
           refine GL.run (j := 2) 2 [0, 5, 7, 31] [(0, pt m 0), (5, .int .i64 1), (7, .int .i64 0), (31, .bool true)] (by kernel_rfl) rfl ?_
           refine GL.k rfl hK353 (fun _ _ h => h) ?_
           refine G.yes rfl ?_
           refine G.skipK hK351 (fun _ _ h => h) ?_
           refine G.seqK fun K354 hK355 => ?_
           refine G.block ?_
           refine G.seqK fun K356 hK357 => ?_
           refine G.region ?_
           refine GL.run (j := 5) 5 [0, 5, 7, 38] [(0, pt m 0), (5, .int .i64 1), (7, .int .i64 0), (38, pt m 3)] (by kernel_rfl) rfl ?_
           refine GL.sem (j := 6) (H318.ld (o := 3) (ty := 3) (v := .int .i64 0) 0 rfl (by kernel_rfl) rfl) [0, 5, 7, 39] [(0, pt m 0), (5, .int .i64 1), (7, .int .i64 0), (39, .int .i64 0)] (by kernel_rfl) (by kernel_rfl) rfl ?_
           refine GL.run (j := 7) 1 [0, 5, 7, 40] [(0, pt m 0), (5, .int .i64 1), (7, .int .i64 0), (40, .bool false)] (by kernel_rfl) rfl ?_
           refine GL.k rfl hK357 (fun _ _ h => h) ?_
           refine G.no rfl ?_
           refine G.skipK hK355 (fun _ _ h => h) ?_
           refine G.region ?_
           refine GL.run (j := 3) 3 [0, 5, 7] [(0, pt m 0), (5, .int .i64 1), (7, .int .i64 (-1))] (by kernel_rfl) rfl ?_
           refine GL.round rfl ?_
           refine G.seqK fun K358 hK359 => ?_
           refine G.seqK fun K360 hK361 => ?_
           refine G.region ?_
           refine GL.run (j := 2) 2 [0, 5, 7, 31] [(0, pt m 0), (5, .int .i64 1), (7, .int .i64 (-1)), (31, .bool false)] (by kernel_rfl) rfl ?_
           refine GL.k rfl hK361 (fun _ _ h => h) ?_
           refine G.no rfl ?_
           refine G.exitK hK329 (fun _ _ h => h) ?_
           have e0 : tkN a0 a1 a2 = 1 := by
             unfold tkN
             repeat' split
             all_goals omega
           have HZ : Hp w S [.blk m [.slice q0 a0.l.length k0, .slice q1 a1.l.length k1, .slice q2 a2.l.length k2, .int .i64 (a0.p : Int), .int .i64 (a1.p : Int), .int .i64 (a2.p : Int), .bool cl] 39, .que q0 a0.l.length k0 9 (mq a0.l), .que q1 a1.l.length k1 9 (mq a1.l), .que q2 a2.l.length k2 9 (mq a2.l)] w316 := by rw [show a0.p = 0 from hz0.1 (by omega)]; exact H318
           refine G.fit [0, 5] (M' := [(0, pt m 0), (5, .int .i64 1)]) (by kernel_rfl) ?_
           exact J327 () _ ⟨trivial, HZ⟩
         · skip
           have hb349f := of_decide_eq_true hb349
           refine G.yes rfl ?_
           refine G.region ?_
           refine GL.run (j := 2) 2 [0, 5, 7] [(0, pt m 0), (5, .int .i64 1), (7, .int .i64 1)] (by kernel_rfl) rfl ?_
           refine GL.k rfl hK346 (fun _ _ h => h) ?_
           refine G.region ?_
           refine GL.run (j := 3) 3 [0, 5, 7] [(0, pt m 0), (5, .int .i64 1), (7, .int .i64 0)] (by kernel_rfl) rfl ?_
           refine GL.round rfl ?_
           refine G.seqK fun K362 hK363 => ?_
           refine G.seqK fun K364 hK365 => ?_
           refine G.region ?_
           refine GL.run (j := 2) 2 [0, 5, 7, 31] [(0, pt m 0), (5, .int .i64 1), (7, .int .i64 0), (31, .bool true)] (by kernel_rfl) rfl ?_
           refine GL.k rfl hK365 (fun _ _ h => h) ?_
           refine G.yes rfl ?_
           refine G.skipK hK363 (fun _ _ h => h) ?_
           refine G.seqK fun K366 hK367 => ?_
           refine G.block ?_
           refine G.seqK fun K368 hK369 => ?_
           refine G.region ?_
           refine GL.run (j := 5) 5 [0, 5, 7, 38] [(0, pt m 0), (5, .int .i64 1), (7, .int .i64 0), (38, pt m 3)] (by kernel_rfl) rfl ?_
           refine GL.sem (j := 6) (H318.ld (o := 3) (ty := 3) (v := .int .i64 0) 0 rfl (by kernel_rfl) rfl) [0, 5, 7, 39] [(0, pt m 0), (5, .int .i64 1), (7, .int .i64 0), (39, .int .i64 0)] (by kernel_rfl) (by kernel_rfl) rfl ?_
           refine GL.run (j := 7) 1 [0, 5, 7, 40] [(0, pt m 0), (5, .int .i64 1), (7, .int .i64 0), (40, .bool false)] (by kernel_rfl) rfl ?_
           refine GL.k rfl hK369 (fun _ _ h => h) ?_
           refine G.no rfl ?_
           refine G.skipK hK367 (fun _ _ h => h) ?_
           refine G.region ?_
           refine GL.run (j := 3) 3 [0, 5, 7] [(0, pt m 0), (5, .int .i64 1), (7, .int .i64 (-1))] (by kernel_rfl) rfl ?_
           refine GL.round rfl ?_
           refine G.seqK fun K370 hK371 => ?_
           refine G.seqK fun K372 hK373 => ?_
           refine G.region ?_
           refine GL.run (j := 2) 2 [0, 5, 7, 31] [(0, pt m 0), (5, .int .i64 1), (7, .int .i64 (-1)), (31, .bool false)] (by kernel_rfl) rfl ?_
           refine GL.k rfl hK373 (fun _ _ h => h) ?_
           refine G.no rfl ?_
           refine G.exitK hK329 (fun _ _ h => h) ?_
           have e0 : tkN a0 a1 a2 = 1 := by
             unfold tkN
             repeat' split
             all_goals omega
           have HZ : Hp w S [.blk m [.slice q0 a0.l.length k0, .slice q1 a1.l.length k1, .slice q2 a2.l.length k2, .int .i64 (a0.p : Int), .int .i64 (a1.p : Int), .int .i64 (a2.p : Int), .bool cl] 39, .que q0 a0.l.length k0 9 (mq a0.l), .que q1 a1.l.length k1 9 (mq a1.l), .que q2 a2.l.length k2 9 (mq a2.l)] w316 := by rw [show a0.p = 0 from hz0.1 (by omega)]; exact H318
           refine G.fit [0, 5] (M' := [(0, pt m 0), (5, .int .i64 1)]) (by kernel_rfl) ?_
           exact J327 () _ ⟨trivial, HZ⟩
       · skip
         have hb340f := of_decide_eq_true hb340
         refine G.yes rfl ?_
         refine G.region ?_
         refine GL.run (j := 2) 2 [0, 5, 7] [(0, pt m 0), (5, .int .i64 2), (7, .int .i64 2)] (by kernel_rfl) rfl ?_
         refine GL.k rfl hK337 (fun _ _ h => h) ?_
         refine G.region ?_
         refine GL.run (j := 3) 3 [0, 5, 7] [(0, pt m 0), (5, .int .i64 2), (7, .int .i64 1)] (by kernel_rfl) rfl ?_
         refine GL.round rfl ?_
         refine G.seqK fun K374 hK375 => ?_
         refine G.seqK fun K376 hK377 => ?_
         refine G.region ?_
         refine GL.run (j := 2) 2 [0, 5, 7, 31] [(0, pt m 0), (5, .int .i64 2), (7, .int .i64 1), (31, .bool true)] (by kernel_rfl) rfl ?_
         refine GL.k rfl hK377 (fun _ _ h => h) ?_
         refine G.yes rfl ?_
         refine G.skipK hK375 (fun _ _ h => h) ?_
         refine G.seqK fun K378 hK379 => ?_
         refine G.block ?_
         refine G.seqK fun K380 hK381 => ?_
         refine G.region ?_
         refine GL.run (j := 5) 5 [0, 5, 7, 38] [(0, pt m 0), (5, .int .i64 2), (7, .int .i64 1), (38, pt m 4)] (by kernel_rfl) rfl ?_
         refine GL.sem (j := 6) (H318.ld (o := 4) (ty := 3) (v := .int .i64 (a1.p : Int)) 0 rfl (by kernel_rfl) rfl) [0, 5, 7, 39] [(0, pt m 0), (5, .int .i64 2), (7, .int .i64 1), (39, .int .i64 (a1.p : Int))] (by kernel_rfl) (by kernel_rfl) rfl ?_
         refine GL.run (j := 7) 1 [0, 5, 7, 40] [(0, pt m 0), (5, .int .i64 2), (7, .int .i64 1), (40, .bool (decide (4 ≤ (a1.p : Int))))] (by kernel_rfl) rfl ?_
         refine GL.k rfl hK381 (fun _ _ h => h) ?_
         cases hb382 : (decide (4 ≤ (a1.p : Int)))
         · skip
           have hb382f := of_decide_eq_false hb382
           refine G.no rfl ?_
           refine G.skipK hK379 (fun _ _ h => h) ?_
           refine G.region ?_
           refine GL.run (j := 3) 3 [0, 5, 7] [(0, pt m 0), (5, .int .i64 2), (7, .int .i64 0)] (by kernel_rfl) rfl ?_
           refine GL.round rfl ?_
           refine G.seqK fun K383 hK384 => ?_
           refine G.seqK fun K385 hK386 => ?_
           refine G.region ?_
           refine GL.run (j := 2) 2 [0, 5, 7, 31] [(0, pt m 0), (5, .int .i64 2), (7, .int .i64 0), (31, .bool true)] (by kernel_rfl) rfl ?_
           refine GL.k rfl hK386 (fun _ _ h => h) ?_
           refine G.yes rfl ?_
           refine G.skipK hK384 (fun _ _ h => h) ?_
           refine G.seqK fun K387 hK388 => ?_
           refine G.block ?_
           refine G.seqK fun K389 hK390 => ?_
           refine G.region ?_
           refine GL.run (j := 5) 5 [0, 5, 7, 38] [(0, pt m 0), (5, .int .i64 2), (7, .int .i64 0), (38, pt m 3)] (by kernel_rfl) rfl ?_
           refine GL.sem (j := 6) (H318.ld (o := 3) (ty := 3) (v := .int .i64 0) 0 rfl (by kernel_rfl) rfl) [0, 5, 7, 39] [(0, pt m 0), (5, .int .i64 2), (7, .int .i64 0), (39, .int .i64 0)] (by kernel_rfl) (by kernel_rfl) rfl ?_
           refine GL.run (j := 7) 1 [0, 5, 7, 40] [(0, pt m 0), (5, .int .i64 2), (7, .int .i64 0), (40, .bool false)] (by kernel_rfl) rfl ?_
           refine GL.k rfl hK390 (fun _ _ h => h) ?_
           refine G.no rfl ?_
           refine G.skipK hK388 (fun _ _ h => h) ?_
           refine G.region ?_
           refine GL.run (j := 3) 3 [0, 5, 7] [(0, pt m 0), (5, .int .i64 2), (7, .int .i64 (-1))] (by kernel_rfl) rfl ?_
           refine GL.round rfl ?_
           refine G.seqK fun K391 hK392 => ?_
           refine G.seqK fun K393 hK394 => ?_
           refine G.region ?_
           refine GL.run (j := 2) 2 [0, 5, 7, 31] [(0, pt m 0), (5, .int .i64 2), (7, .int .i64 (-1)), (31, .bool false)] (by kernel_rfl) rfl ?_
           refine GL.k rfl hK394 (fun _ _ h => h) ?_
           refine G.no rfl ?_
           refine G.exitK hK329 (fun _ _ h => h) ?_
           have e0 : tkN a0 a1 a2 = 2 := by
             unfold tkN
             repeat' split
             all_goals omega
           exact absurd (htk.symm.trans e0) (by decide)
         · skip
           have hb382f := of_decide_eq_true hb382
           refine G.yes rfl ?_
           refine G.region ?_
           refine GL.run (j := 2) 2 [0, 5, 7] [(0, pt m 0), (5, .int .i64 1), (7, .int .i64 1)] (by kernel_rfl) rfl ?_
           refine GL.k rfl hK379 (fun _ _ h => h) ?_
           refine G.region ?_
           refine GL.run (j := 3) 3 [0, 5, 7] [(0, pt m 0), (5, .int .i64 1), (7, .int .i64 0)] (by kernel_rfl) rfl ?_
           refine GL.round rfl ?_
           refine G.seqK fun K395 hK396 => ?_
           refine G.seqK fun K397 hK398 => ?_
           refine G.region ?_
           refine GL.run (j := 2) 2 [0, 5, 7, 31] [(0, pt m 0), (5, .int .i64 1), (7, .int .i64 0), (31, .bool true)] (by kernel_rfl) rfl ?_
           refine GL.k rfl hK398 (fun _ _ h => h) ?_
           refine G.yes rfl ?_
           refine G.skipK hK396 (fun _ _ h => h) ?_
           refine G.seqK fun K399 hK400 => ?_
           refine G.block ?_
           refine G.seqK fun K401 hK402 => ?_
           refine G.region ?_
           refine GL.run (j := 5) 5 [0, 5, 7, 38] [(0, pt m 0), (5, .int .i64 1), (7, .int .i64 0), (38, pt m 3)] (by kernel_rfl) rfl ?_
           refine GL.sem (j := 6) (H318.ld (o := 3) (ty := 3) (v := .int .i64 0) 0 rfl (by kernel_rfl) rfl) [0, 5, 7, 39] [(0, pt m 0), (5, .int .i64 1), (7, .int .i64 0), (39, .int .i64 0)] (by kernel_rfl) (by kernel_rfl) rfl ?_
           refine GL.run (j := 7) 1 [0, 5, 7, 40] [(0, pt m 0), (5, .int .i64 1), (7, .int .i64 0), (40, .bool false)] (by kernel_rfl) rfl ?_
           refine GL.k rfl hK402 (fun _ _ h => h) ?_
           refine G.no rfl ?_
           refine G.skipK hK400 (fun _ _ h => h) ?_
           refine G.region ?_
           refine GL.run (j := 3) 3 [0, 5, 7] [(0, pt m 0), (5, .int .i64 1), (7, .int .i64 (-1))] (by kernel_rfl) rfl ?_
           refine GL.round rfl ?_
           refine G.seqK fun K403 hK404 => ?_
           refine G.seqK fun K405 hK406 => ?_
           refine G.region ?_
           refine GL.run (j := 2) 2 [0, 5, 7, 31] [(0, pt m 0), (5, .int .i64 1), (7, .int .i64 (-1)), (31, .bool false)] (by kernel_rfl) rfl ?_
           refine GL.k rfl hK406 (fun _ _ h => h) ?_
           refine G.no rfl ?_
           refine G.exitK hK329 (fun _ _ h => h) ?_
           have e0 : tkN a0 a1 a2 = 1 := by
             unfold tkN
             repeat' split
             all_goals omega
           have HZ : Hp w S [.blk m [.slice q0 a0.l.length k0, .slice q1 a1.l.length k1, .slice q2 a2.l.length k2, .int .i64 (a0.p : Int), .int .i64 (a1.p : Int), .int .i64 (a2.p : Int), .bool cl] 39, .que q0 a0.l.length k0 9 (mq a0.l), .que q1 a1.l.length k1 9 (mq a1.l), .que q2 a2.l.length k2 9 (mq a2.l)] w316 := by rw [show a0.p = 0 from hz0.1 (by omega)]; exact H318
           refine G.fit [0, 5] (M' := [(0, pt m 0), (5, .int .i64 1)]) (by kernel_rfl) ?_
           exact J327 () _ ⟨trivial, HZ⟩
     · skip
       rintro _ w407 ⟨hi408, H409⟩
       refine G.eq (M' := [(0, pt m 0), (5, .int .i64 1)]) rfl ?_
       have H409 : Hp w S [.blk m [.slice q0 a0.l.length k0, .slice q1 a1.l.length k1, .slice q2 a2.l.length k2, .int .i64 (a0.p : Int), .int .i64 (a1.p : Int), .int .i64 (a2.p : Int), .bool cl] 39, .que q0 a0.l.length k0 9 (mq a0.l), .que q1 a1.l.length k1 9 (mq a1.l), .que q2 a2.l.length k2 9 (mq a2.l)] w407 := H409
       refine G.seqK fun K410 hK411 => ?_
       refine G.seqK fun K412 hK413 => ?_
       refine G.region ?_
       refine GL.run (j := 1) 1 [0, 5, 42] [(0, pt m 0), (5, .int .i64 1), (42, .int .i64 0)] (by kernel_rfl) rfl ?_
       refine GL.k rfl hK413 (fun _ _ h => h) ?_
       refine G.block ?_
       refine G.unroll 3 ?_
       refine G.seqK fun K414 hK415 => ?_
       refine G.region ?_
       refine GL.run (j := 1) 1 [0, 5, 42, 43] [(0, pt m 0), (5, .int .i64 1), (42, .int .i64 0), (43, .bool true)] (by kernel_rfl) rfl ?_
       refine GL.k rfl hK415 (fun _ _ h => h) ?_
       refine G.seqK fun K416 hK417 => ?_
       refine G.yes rfl ?_
       refine G.skipK hK417 (fun _ _ h => h) ?_
       refine G.seqK fun K418 hK419 => ?_
       refine G.block ?_
       refine G.seqK fun K420 hK421 => ?_
       refine G.region ?_
       refine GL.run (j := 2) 2 [0, 5, 8, 42] [(0, pt m 0), (5, .int .i64 1), (8, .int .i64 0), (42, .int .i64 0)] (by kernel_rfl) rfl ?_
       refine GL.k rfl hK421 (fun _ _ h => h) ?_
       refine G.seqK fun K422 hK423 => ?_
       refine G.region ?_
       refine GL.run (j := 5) 5 [0, 5, 8, 42, 49] [(0, pt m 0), (5, .int .i64 1), (8, .int .i64 0), (42, .int .i64 0), (49, pt m 0)] (by kernel_rfl) rfl ?_
       refine GL.sem (j := 6) (H409.ld (o := 0) (ty := 36) (v := .slice q0 a0.l.length k0) 0 rfl (by kernel_rfl) rfl) [0, 5, 8, 42, 50] [(0, pt m 0), (5, .int .i64 1), (8, .int .i64 0), (42, .int .i64 0), (50, .slice q0 a0.l.length k0)] (by kernel_rfl) (by kernel_rfl) rfl ?_
       refine GL.run (j := 8) 2 [0, 5, 8, 42, 52] [(0, pt m 0), (5, .int .i64 1), (8, .int .i64 0), (42, .int .i64 0), (52, .bool (decide (0 < (a0.l.length : Int))))] (by kernel_rfl) rfl ?_
       refine GL.k rfl hK423 (fun _ _ h => h) ?_
       have hb424 : (decide (0 < (a0.l.length : Int))) = false := by assumption
       rw [hb424]
       refine G.no rfl ?_
       refine G.skipK hK419 (fun _ _ h => h) ?_
       refine G.region ?_
       refine GL.run (j := 2) 2 [0, 5, 42] [(0, pt m 0), (5, .int .i64 1), (42, .int .i64 1)] (by kernel_rfl) rfl ?_
       refine GL.round rfl ?_
       refine G.seqK fun K425 hK426 => ?_
       refine G.region ?_
       refine GL.run (j := 1) 1 [0, 5, 42, 43] [(0, pt m 0), (5, .int .i64 1), (42, .int .i64 1), (43, .bool true)] (by kernel_rfl) rfl ?_
       refine GL.k rfl hK426 (fun _ _ h => h) ?_
       refine G.seqK fun K427 hK428 => ?_
       refine G.yes rfl ?_
       refine G.skipK hK428 (fun _ _ h => h) ?_
       refine G.seqK fun K429 hK430 => ?_
       refine G.block ?_
       refine G.seqK fun K431 hK432 => ?_
       refine G.region ?_
       refine GL.run (j := 2) 2 [0, 5, 8, 42] [(0, pt m 0), (5, .int .i64 1), (8, .int .i64 1), (42, .int .i64 1)] (by kernel_rfl) rfl ?_
       refine GL.k rfl hK432 (fun _ _ h => h) ?_
       refine G.seqK fun K433 hK434 => ?_
       refine G.region ?_
       refine GL.run (j := 5) 5 [0, 5, 8, 42, 49] [(0, pt m 0), (5, .int .i64 1), (8, .int .i64 1), (42, .int .i64 1), (49, pt m 1)] (by kernel_rfl) rfl ?_
       refine GL.sem (j := 6) (H409.ld (o := 1) (ty := 36) (v := .slice q1 a1.l.length k1) 0 rfl (by kernel_rfl) rfl) [0, 5, 8, 42, 50] [(0, pt m 0), (5, .int .i64 1), (8, .int .i64 1), (42, .int .i64 1), (50, .slice q1 a1.l.length k1)] (by kernel_rfl) (by kernel_rfl) rfl ?_
       refine GL.run (j := 8) 2 [0, 5, 8, 42, 52] [(0, pt m 0), (5, .int .i64 1), (8, .int .i64 1), (42, .int .i64 1), (52, .bool (decide (0 < (a1.l.length : Int))))] (by kernel_rfl) rfl ?_
       refine GL.k rfl hK434 (fun _ _ h => h) ?_
       have hb435 : (decide (0 < (a1.l.length : Int))) = true := by assumption
       rw [hb435]
       refine G.yes rfl ?_
       refine G.tail 10 (by kernel_rfl) (by kernel_rfl) ?_
       have H436 := H409.drew
       generalize ({ w407 with drawn := w407.drawn + 1 } : World) = w437 at H436 ⊢
       refine GS.run (j := 5) 5 [0, 5, 42, 53, 54, 57] [(0, pt m 0), (5, .int .i64 1), (42, .int .i64 1), (53, pt m 0), (54, .int .i64 1), (57, pt m 4)] (by kernel_rfl) rfl rfl ?_
       refine GS.sem (j := 6) (H436.ld (o := 4) (ty := 3) (v := .int .i64 (a1.p : Int)) 0 rfl (by kernel_rfl) rfl) [0, 5, 42, 53, 54, 58] [(0, pt m 0), (5, .int .i64 1), (42, .int .i64 1), (53, pt m 0), (54, .int .i64 1), (58, .int .i64 (a1.p : Int))] (by kernel_rfl) (by kernel_rfl) rfl rfl ?_
       refine GS.run (j := 10) 4 [0, 5, 42, 59, 62] [(0, pt m 0), (5, .int .i64 1), (42, .int .i64 1), (59, .int .i64 (IntKind.i64.wrap ((a1.p : Int) + 1))), (62, pt m 4)] (by kernel_rfl) rfl rfl ?_
       have e438 : (IntKind.i64.wrap ((a1.p : Int) + 1)) = ((a1.p + 1 : Nat) : Int) := by rw [in_i64 (by omega)]; omega
       refine GS.eq (M' := [(0, pt m 0), (5, .int .i64 1), (42, .int .i64 1), (59, .int .i64 ((a1.p + 1 : Nat) : Int)), (62, pt m 4)]) (by rw [e438]) ?_
       clear e438
       refine GS.tail rfl ?_
       obtain ⟨w439, r440, H441⟩ := H436.st (P := Try.prog) (o := 4) (ty := 3) (v := .int .i64 ((a1.p + 1 : Nat) : Int)) 0 rfl (by kernel_rfl) (by simp) rfl
       have H441 : Hp w S [.blk m [.slice q0 a0.l.length k0, .slice q1 a1.l.length k1, .slice q2 a2.l.length k2, .int .i64 (a0.p : Int), .int .i64 ((a1.p + 1 : Nat) : Int), .int .i64 (a2.p : Int), .bool cl] 39, .que q0 a0.l.length k0 9 (mq a0.l), .que q1 a1.l.length k1 9 (mq a1.l), .que q2 a2.l.length k2 9 (mq a2.l)] w439 := H441
       refine GL.semU (j := 11) r440 [0, 5, 42] [(0, pt m 0), (5, .int .i64 1), (42, .int .i64 1)] (by kernel_rfl) rfl rfl rfl ?_
       refine GL.k rfl hK430 (fun _ _ h => h) ?_
       refine G.region ?_
       refine GL.run (j := 2) 2 [0, 5, 42] [(0, pt m 0), (5, .int .i64 1), (42, .int .i64 2)] (by kernel_rfl) rfl ?_
       refine GL.round rfl ?_
       refine G.seqK fun K442 hK443 => ?_
       refine G.region ?_
       refine GL.run (j := 1) 1 [0, 5, 42, 43] [(0, pt m 0), (5, .int .i64 1), (42, .int .i64 2), (43, .bool true)] (by kernel_rfl) rfl ?_
       refine GL.k rfl hK443 (fun _ _ h => h) ?_
       refine G.seqK fun K444 hK445 => ?_
       refine G.yes rfl ?_
       refine G.skipK hK445 (fun _ _ h => h) ?_
       refine G.seqK fun K446 hK447 => ?_
       refine G.block ?_
       refine G.seqK fun K448 hK449 => ?_
       refine G.region ?_
       refine GL.run (j := 2) 2 [0, 5, 8, 42] [(0, pt m 0), (5, .int .i64 1), (8, .int .i64 2), (42, .int .i64 2)] (by kernel_rfl) rfl ?_
       refine GL.k rfl hK449 (fun _ _ h => h) ?_
       refine G.seqK fun K450 hK451 => ?_
       refine G.region ?_
       refine GL.run (j := 5) 5 [0, 5, 8, 42, 49] [(0, pt m 0), (5, .int .i64 1), (8, .int .i64 2), (42, .int .i64 2), (49, pt m 2)] (by kernel_rfl) rfl ?_
       refine GL.sem (j := 6) (H441.ld (o := 2) (ty := 36) (v := .slice q2 a2.l.length k2) 0 rfl (by kernel_rfl) rfl) [0, 5, 8, 42, 50] [(0, pt m 0), (5, .int .i64 1), (8, .int .i64 2), (42, .int .i64 2), (50, .slice q2 a2.l.length k2)] (by kernel_rfl) (by kernel_rfl) rfl ?_
       refine GL.run (j := 8) 2 [0, 5, 8, 42, 52] [(0, pt m 0), (5, .int .i64 1), (8, .int .i64 2), (42, .int .i64 2), (52, .bool (decide (0 < (a2.l.length : Int))))] (by kernel_rfl) rfl ?_
       refine GL.k rfl hK451 (fun _ _ h => h) ?_
       have hb452 : (decide (0 < (a2.l.length : Int))) = true := by assumption
       rw [hb452]
       refine G.yes rfl ?_
       refine G.tail 10 (by kernel_rfl) (by kernel_rfl) ?_
       have H453 := H441.drew
       generalize ({ w439 with drawn := w439.drawn + 1 } : World) = w454 at H453 ⊢
       refine GS.run (j := 5) 5 [0, 5, 42, 53, 54, 57] [(0, pt m 0), (5, .int .i64 1), (42, .int .i64 2), (53, pt m 0), (54, .int .i64 2), (57, pt m 5)] (by kernel_rfl) rfl rfl ?_
       refine GS.sem (j := 6) (H453.ld (o := 5) (ty := 3) (v := .int .i64 (a2.p : Int)) 0 rfl (by kernel_rfl) rfl) [0, 5, 42, 53, 54, 58] [(0, pt m 0), (5, .int .i64 1), (42, .int .i64 2), (53, pt m 0), (54, .int .i64 2), (58, .int .i64 (a2.p : Int))] (by kernel_rfl) (by kernel_rfl) rfl rfl ?_
       refine GS.run (j := 10) 4 [0, 5, 42, 59, 62] [(0, pt m 0), (5, .int .i64 1), (42, .int .i64 2), (59, .int .i64 (IntKind.i64.wrap ((a2.p : Int) + 1))), (62, pt m 5)] (by kernel_rfl) rfl rfl ?_
       have e455 : (IntKind.i64.wrap ((a2.p : Int) + 1)) = ((a2.p + 1 : Nat) : Int) := by rw [in_i64 (by omega)]; omega
       refine GS.eq (M' := [(0, pt m 0), (5, .int .i64 1), (42, .int .i64 2), (59, .int .i64 ((a2.p + 1 : Nat) : Int)), (62, pt m 5)]) (by rw [e455]) ?_
       clear e455
       refine GS.tail rfl ?_
       obtain ⟨w456, r457, H458⟩ := H453.st (P := Try.prog) (o := 5) (ty := 3) (v := .int .i64 ((a2.p + 1 : Nat) : Int)) 0 rfl (by kernel_rfl) (by simp) rfl
       have H458 : Hp w S [.blk m [.slice q0 a0.l.length k0, .slice q1 a1.l.length k1, .slice q2 a2.l.length k2, .int .i64 (a0.p : Int), .int .i64 ((a1.p + 1 : Nat) : Int), .int .i64 ((a2.p + 1 : Nat) : Int), .bool cl] 39, .que q0 a0.l.length k0 9 (mq a0.l), .que q1 a1.l.length k1 9 (mq a1.l), .que q2 a2.l.length k2 9 (mq a2.l)] w456 := H458
       refine GL.semU (j := 11) r457 [0, 5, 42] [(0, pt m 0), (5, .int .i64 1), (42, .int .i64 2)] (by kernel_rfl) rfl rfl rfl ?_
       refine GL.k rfl hK447 (fun _ _ h => h) ?_
       refine G.region ?_
       refine GL.run (j := 2) 2 [0, 5, 42] [(0, pt m 0), (5, .int .i64 1), (42, .int .i64 3)] (by kernel_rfl) rfl ?_
       refine GL.round rfl ?_
       refine G.seqK fun K459 hK460 => ?_
       refine G.region ?_
       refine GL.run (j := 1) 1 [0, 5, 42, 43] [(0, pt m 0), (5, .int .i64 1), (42, .int .i64 3), (43, .bool false)] (by kernel_rfl) rfl ?_
       refine GL.k rfl hK460 (fun _ _ h => h) ?_
       refine G.seqK fun K461 hK462 => ?_
       refine G.no rfl ?_
       refine G.exitK hK411 (fun _ _ h => h) ?_
       refine G.seqK fun K463 hK464 => ?_
       refine G.region ?_
       refine GL.run (j := 5) 5 [0, 5, 68] [(0, pt m 0), (5, .int .i64 1), (68, pt m 4)] (by kernel_rfl) rfl ?_
       obtain ⟨w465, r466, H467⟩ := H458.st (P := Try.prog) (o := 4) (ty := 3) (v := .int .i64 0) 0 rfl (by kernel_rfl) (by simp) rfl
       have H467 : Hp w S [.blk m [.slice q0 a0.l.length k0, .slice q1 a1.l.length k1, .slice q2 a2.l.length k2, .int .i64 (a0.p : Int), .int .i64 0, .int .i64 ((a2.p + 1 : Nat) : Int), .bool cl] 39, .que q0 a0.l.length k0 9 (mq a0.l), .que q1 a1.l.length k1 9 (mq a1.l), .que q2 a2.l.length k2 9 (mq a2.l)] w465 := H467
       refine GL.semU (j := 6) r466 [0, 5] [(0, pt m 0), (5, .int .i64 1)] (by kernel_rfl) rfl rfl rfl ?_
       refine GL.k rfl hK464 (fun _ _ h => h) ?_
       refine G.seqK fun K468 hK469 => ?_
       refine G.region ?_
       refine GL.run (j := 5) 5 [0, 5, 73] [(0, pt m 0), (5, .int .i64 1), (73, pt m 1)] (by kernel_rfl) rfl ?_
       refine GL.sem (j := 6) (H467.ld (o := 1) (ty := 36) (v := .slice q1 a1.l.length k1) 0 rfl (by kernel_rfl) rfl) [0, 5, 74] [(0, pt m 0), (5, .int .i64 1), (74, .slice q1 a1.l.length k1)] (by kernel_rfl) (by kernel_rfl) rfl ?_
       refine GL.sem (j := 7) (run_idxRd (P := Try.prog) (k := .i64) (t := 36) (A := q1) (len := a1.l.length) (cap := k1) (j := 0) (by kernel_rfl) rfl (H467.rdQue 2 rfl) (mq_length _) (by omega)) [0, 5, 75] [(0, pt m 0), (5, .int .i64 1), (75, .pointer (Option.map (fun x => Addr.add x 0) q1))] (by kernel_rfl) (by kernel_rfl) rfl ?_
       refine GL.sem (j := 8) (run_ldRd (P := Try.prog) (ty := 9) (A := q1) (j := 0) (v := .string (strOf m_.b)) (by kernel_rfl) (H467.rdQue 2 rfl) (by rw [hmq]; rfl)) [0, 5, 76] [(0, pt m 0), (5, .int .i64 1), (76, .string (strOf m_.b))] (by kernel_rfl) (by kernel_rfl) rfl ?_
       refine GL.run (j := 9) 1 [0, 5, 9] [(0, pt m 0), (5, .int .i64 1), (9, .string (strOf m_.b))] (by kernel_rfl) rfl ?_
       refine GL.k rfl hK469 (fun _ _ h => h) ?_
       refine G.seqK fun K470 hK471 => ?_
       refine G.tail 12 (by kernel_rfl) (by kernel_rfl) ?_
       have H472 := H467.drew
       generalize ({ w465 with drawn := w465.drawn + 1 } : World) = w473 at H472 ⊢
       refine GS.run (j := 7) 7 [5, 9, 77, 78, 83] [(5, .int .i64 1), (9, .string (strOf m_.b)), (77, pt m 0), (78, .int .i64 1), (83, pt m 1)] (by kernel_rfl) rfl rfl ?_
       refine GS.sem (j := 8) (H472.ld (o := 1) (ty := 36) (v := .slice q1 a1.l.length k1) 0 rfl (by kernel_rfl) rfl) [5, 9, 77, 78, 84] [(5, .int .i64 1), (9, .string (strOf m_.b)), (77, pt m 0), (78, .int .i64 1), (84, .slice q1 a1.l.length k1)] (by kernel_rfl) (by kernel_rfl) rfl rfl ?_
       refine GS.sem (j := 9) (run_tail1 (P := Try.prog) (t := 36) (n := a1.l.length) (c := k1) (A := q1) (by kernel_rfl) (by omega) (by omega)) [5, 9, 77, 78, 85] [(5, .int .i64 1), (9, .string (strOf m_.b)), (77, pt m 0), (78, .int .i64 1), (85, .slice (if k1 = 1 then q1 else q1.map fun a => Addr.add a 1) (a1.l.length - 1) (k1 - 1))] (by kernel_rfl) (by kernel_rfl) rfl rfl ?_
       refine GS.run (j := 12) 3 [5, 9, 85, 88] [(5, .int .i64 1), (9, .string (strOf m_.b)), (85, .slice (if k1 = 1 then q1 else q1.map fun a => Addr.add a 1) (a1.l.length - 1) (k1 - 1)), (88, pt m 1)] (by kernel_rfl) rfl rfl ?_
       refine GS.tail rfl ?_
       obtain ⟨w474, r475, H476⟩ := H472.st (P := Try.prog) (o := 1) (ty := 36) (v := .slice (if k1 = 1 then q1 else q1.map fun a => Addr.add a 1) (a1.l.length - 1) (k1 - 1)) 0 rfl (by kernel_rfl) (by simp) rfl
       have H476 : Hp w S [.blk m [.slice q0 a0.l.length k0, .slice (if k1 = 1 then q1 else q1.map fun a => Addr.add a 1) (a1.l.length - 1) (k1 - 1), .slice q2 a2.l.length k2, .int .i64 (a0.p : Int), .int .i64 0, .int .i64 ((a2.p + 1 : Nat) : Int), .bool cl] 39, .que q0 a0.l.length k0 9 (mq a0.l), .que q1 a1.l.length k1 9 (mq a1.l), .que q2 a2.l.length k2 9 (mq a2.l)] w474 := H476
       refine GL.semU (j := 13) r475 [5, 9] [(5, .int .i64 1), (9, .string (strOf m_.b))] (by kernel_rfl) rfl rfl rfl ?_
       refine GL.k rfl hK471 (fun _ _ h => h) ?_
       refine G.seqK fun K477 hK478 => ?_
       refine G.region ?_
       refine GL.run (j := 5) 5 [2, 3, 4] [(2, .string (strOf m_.b)), (3, .int .i64 1), (4, .bool true)] (by kernel_rfl) rfl ?_
       refine GL.k rfl hK478 (fun _ _ h => h) ?_
       refine G.ret ?_
       intro F_ hF_ hM_
       refine hRet _ _ (bodyPost_3 rfl (RV.tmp rfl) (RV.tmp rfl) (RV.tmp rfl) ?_ F_ hF_ hM_)
       have HT := H476.queTail 2 (x := .string (strOf m_.b)) (xs := mq t_) (by rw [← hmq]; rfl) (by rw [mq_length, hlk]; rfl)
       have HZ : Hp w S [.blk m [.slice q0 a0.pass.l.length k0, .slice (if k1 = 1 then q1 else q1.map fun a => Addr.add a 1) ((a1.took t_).l.length) (k1 - 1), .slice q2 a2.pass.l.length k2, .int .i64 (a0.pass.p : Int), .int .i64 (((a1.took t_).p : Nat) : Int), .int .i64 (a2.pass.p : Int), .bool cl] 39, .que q0 a0.pass.l.length k0 9 (mq a0.pass.l), .que (if k1 = 1 then q1 else q1.map fun a => Addr.add a 1) ((a1.took t_).l.length) (k1 - 1) 9 (mq (a1.took t_).l), .que q2 a2.pass.l.length k2 9 (mq a2.pass.l)] w474 := by rw [show (a1.took t_).l.length = a1.l.length - 1 by rw [hlk]; rfl, show a0.pass.p = a0.p by unfold Lane.pass; exact if_pos (by omega), show a2.pass.p = a2.p + 1 by unfold Lane.pass; exact if_neg (by omega)]; exact HT
       exact ⟨_, _, rfl, HZ⟩
   · skip
     have hb315f := of_decide_eq_true hb315
     refine G.yes rfl ?_
     refine G.region ?_
     refine GL.run (j := 2) 2 [0, 5, 6] [(0, pt m 0), (5, .int .i64 0), (6, .int .i64 0)] (by kernel_rfl) rfl ?_
     refine GL.k rfl hK312 (fun _ _ h => h) ?_
     refine G.region ?_
     refine GL.run (j := 3) 3 [0, 5, 6] [(0, pt m 0), (5, .int .i64 0), (6, .int .i64 (-1))] (by kernel_rfl) rfl ?_
     refine GL.round rfl ?_
     refine G.seqK fun K479 hK480 => ?_
     refine G.seqK fun K481 hK482 => ?_
     refine G.region ?_
     refine GL.run (j := 2) 2 [0, 5, 6, 11] [(0, pt m 0), (5, .int .i64 0), (6, .int .i64 (-1)), (11, .bool false)] (by kernel_rfl) rfl ?_
     refine GL.k rfl hK482 (fun _ _ h => h) ?_
     refine G.no rfl ?_
     refine G.exitK hK6 (fun _ _ h => h) ?_
     refine G.seqK fun K483 hK484 => ?_
     refine G.seqK fun K485 hK486 => ?_
     refine G.region ?_
     refine GL.run (j := 2) 2 [0, 5, 29] [(0, pt m 0), (5, .int .i64 0), (29, .bool false)] (by kernel_rfl) rfl ?_
     refine GL.k rfl hK486 (fun _ _ h => h) ?_
     refine G.no rfl ?_
     refine G.skipK hK484 (fun _ _ h => h) ?_
     refine G.seqJ (X := Unit) (fun _ => [(0, pt m 0), (5, .int .i64 1)]) (fun _ w_ => (True) ∧ Hp w S [.blk m [.slice q0 a0.l.length k0, .slice q1 a1.l.length k1, .slice q2 a2.l.length k2, .int .i64 (a0.p : Int), .int .i64 (a1.p : Int), .int .i64 (a2.p : Int), .bool cl] 39, .que q0 a0.l.length k0 9 (mq a0.l), .que q1 a1.l.length k1 9 (mq a1.l), .que q2 a2.l.length k2 9 (mq a2.l)] w_) (fun J487 K488 hK489 => ?_) ?_
     · skip
       refine G.seqK fun K490 hK491 => ?_
       refine G.region ?_
       refine GL.run (j := 1) 1 [0, 5, 7] [(0, pt m 0), (5, .int .i64 0), (7, .int .i64 2)] (by kernel_rfl) rfl ?_
       refine GL.k rfl hK491 (fun _ _ h => h) ?_
       refine G.block ?_
       refine G.unroll 3 ?_
       refine G.seqK fun K492 hK493 => ?_
       refine G.seqK fun K494 hK495 => ?_
       refine G.region ?_
       refine GL.run (j := 2) 2 [0, 5, 7, 31] [(0, pt m 0), (5, .int .i64 0), (7, .int .i64 2), (31, .bool true)] (by kernel_rfl) rfl ?_
       refine GL.k rfl hK495 (fun _ _ h => h) ?_
       refine G.yes rfl ?_
       refine G.skipK hK493 (fun _ _ h => h) ?_
       refine G.seqK fun K496 hK497 => ?_
       refine G.block ?_
       refine G.seqK fun K498 hK499 => ?_
       refine G.region ?_
       refine GL.run (j := 5) 5 [0, 5, 7, 38] [(0, pt m 0), (5, .int .i64 0), (7, .int .i64 2), (38, pt m 5)] (by kernel_rfl) rfl ?_
       refine GL.sem (j := 6) (H.ld (o := 5) (ty := 3) (v := .int .i64 (a2.p : Int)) 0 rfl (by kernel_rfl) rfl) [0, 5, 7, 39] [(0, pt m 0), (5, .int .i64 0), (7, .int .i64 2), (39, .int .i64 (a2.p : Int))] (by kernel_rfl) (by kernel_rfl) rfl ?_
       refine GL.run (j := 7) 1 [0, 5, 7, 40] [(0, pt m 0), (5, .int .i64 0), (7, .int .i64 2), (40, .bool (decide (4 ≤ (a2.p : Int))))] (by kernel_rfl) rfl ?_
       refine GL.k rfl hK499 (fun _ _ h => h) ?_
       cases hb500 : (decide (4 ≤ (a2.p : Int)))
       · skip
         have hb500f := of_decide_eq_false hb500
         refine G.no rfl ?_
         refine G.skipK hK497 (fun _ _ h => h) ?_
         refine G.region ?_
         refine GL.run (j := 3) 3 [0, 5, 7] [(0, pt m 0), (5, .int .i64 0), (7, .int .i64 1)] (by kernel_rfl) rfl ?_
         refine GL.round rfl ?_
         refine G.seqK fun K501 hK502 => ?_
         refine G.seqK fun K503 hK504 => ?_
         refine G.region ?_
         refine GL.run (j := 2) 2 [0, 5, 7, 31] [(0, pt m 0), (5, .int .i64 0), (7, .int .i64 1), (31, .bool true)] (by kernel_rfl) rfl ?_
         refine GL.k rfl hK504 (fun _ _ h => h) ?_
         refine G.yes rfl ?_
         refine G.skipK hK502 (fun _ _ h => h) ?_
         refine G.seqK fun K505 hK506 => ?_
         refine G.block ?_
         refine G.seqK fun K507 hK508 => ?_
         refine G.region ?_
         refine GL.run (j := 5) 5 [0, 5, 7, 38] [(0, pt m 0), (5, .int .i64 0), (7, .int .i64 1), (38, pt m 4)] (by kernel_rfl) rfl ?_
         refine GL.sem (j := 6) (H.ld (o := 4) (ty := 3) (v := .int .i64 (a1.p : Int)) 0 rfl (by kernel_rfl) rfl) [0, 5, 7, 39] [(0, pt m 0), (5, .int .i64 0), (7, .int .i64 1), (39, .int .i64 (a1.p : Int))] (by kernel_rfl) (by kernel_rfl) rfl ?_
         refine GL.run (j := 7) 1 [0, 5, 7, 40] [(0, pt m 0), (5, .int .i64 0), (7, .int .i64 1), (40, .bool (decide (4 ≤ (a1.p : Int))))] (by kernel_rfl) rfl ?_
         refine GL.k rfl hK508 (fun _ _ h => h) ?_
         cases hb509 : (decide (4 ≤ (a1.p : Int)))
         · skip
           have hb509f := of_decide_eq_false hb509
           refine G.no rfl ?_
           refine G.skipK hK506 (fun _ _ h => h) ?_
           refine G.region ?_
           refine GL.run (j := 3) 3 [0, 5, 7] [(0, pt m 0), (5, .int .i64 0), (7, .int .i64 0)] (by kernel_rfl) rfl ?_
           refine GL.round rfl ?_
           refine G.seqK fun K510 hK511 => ?_
           refine G.seqK fun K512 hK513 => ?_
           refine G.region ?_
           refine GL.run (j := 2) 2 [0, 5, 7, 31] [(0, pt m 0), (5, .int .i64 0), (7, .int .i64 0), (31, .bool true)] (by kernel_rfl) rfl ?_
           refine GL.k rfl hK513 (fun _ _ h => h) ?_
           refine G.yes rfl ?_
           refine G.skipK hK511 (fun _ _ h => h) ?_
           refine G.seqK fun K514 hK515 => ?_
           refine G.block ?_
           refine G.seqK fun K516 hK517 => ?_
           refine G.region ?_
           refine GL.run (j := 5) 5 [0, 5, 7, 38] [(0, pt m 0), (5, .int .i64 0), (7, .int .i64 0), (38, pt m 3)] (by kernel_rfl) rfl ?_
           refine GL.sem (j := 6) (H.ld (o := 3) (ty := 3) (v := .int .i64 (a0.p : Int)) 0 rfl (by kernel_rfl) rfl) [0, 5, 7, 39] [(0, pt m 0), (5, .int .i64 0), (7, .int .i64 0), (39, .int .i64 (a0.p : Int))] (by kernel_rfl) (by kernel_rfl) rfl ?_
           refine GL.run (j := 7) 1 [0, 5, 7, 40] [(0, pt m 0), (5, .int .i64 0), (7, .int .i64 0), (40, .bool (decide (4 ≤ (a0.p : Int))))] (by kernel_rfl) rfl ?_
           refine GL.k rfl hK517 (fun _ _ h => h) ?_
           cases hb518 : (decide (4 ≤ (a0.p : Int)))
           · skip
             have hb518f := of_decide_eq_false hb518
             refine G.no rfl ?_
             refine G.skipK hK515 (fun _ _ h => h) ?_
             refine G.region ?_
             refine GL.run (j := 3) 3 [0, 5, 7] [(0, pt m 0), (5, .int .i64 0), (7, .int .i64 (-1))] (by kernel_rfl) rfl ?_
             refine GL.round rfl ?_
             refine G.seqK fun K519 hK520 => ?_
             refine G.seqK fun K521 hK522 => ?_
             refine G.region ?_
             refine GL.run (j := 2) 2 [0, 5, 7, 31] [(0, pt m 0), (5, .int .i64 0), (7, .int .i64 (-1)), (31, .bool false)] (by kernel_rfl) rfl ?_
             refine GL.k rfl hK522 (fun _ _ h => h) ?_
             refine G.no rfl ?_
             refine G.exitK hK489 (fun _ _ h => h) ?_
             have e0 : tkN a0 a1 a2 = 0 := by
               unfold tkN
               repeat' split
               all_goals omega
             exact absurd (htk.symm.trans e0) (by decide)
           · skip
             have hb518f := of_decide_eq_true hb518
             refine G.yes rfl ?_
             refine G.region ?_
             refine GL.run (j := 2) 2 [0, 5, 7] [(0, pt m 0), (5, .int .i64 0), (7, .int .i64 0)] (by kernel_rfl) rfl ?_
             refine GL.k rfl hK515 (fun _ _ h => h) ?_
             refine G.region ?_
             refine GL.run (j := 3) 3 [0, 5, 7] [(0, pt m 0), (5, .int .i64 0), (7, .int .i64 (-1))] (by kernel_rfl) rfl ?_
             refine GL.round rfl ?_
             refine G.seqK fun K523 hK524 => ?_
             refine G.seqK fun K525 hK526 => ?_
             refine G.region ?_
             refine GL.run (j := 2) 2 [0, 5, 7, 31] [(0, pt m 0), (5, .int .i64 0), (7, .int .i64 (-1)), (31, .bool false)] (by kernel_rfl) rfl ?_
             refine GL.k rfl hK526 (fun _ _ h => h) ?_
             refine G.no rfl ?_
             refine G.exitK hK489 (fun _ _ h => h) ?_
             have e0 : tkN a0 a1 a2 = 0 := by
               unfold tkN
               repeat' split
               all_goals omega
             exact absurd (htk.symm.trans e0) (by decide)
         · skip
           have hb509f := of_decide_eq_true hb509
           refine G.yes rfl ?_
           refine G.region ?_
           refine GL.run (j := 2) 2 [0, 5, 7] [(0, pt m 0), (5, .int .i64 1), (7, .int .i64 1)] (by kernel_rfl) rfl ?_
           refine GL.k rfl hK506 (fun _ _ h => h) ?_
           refine G.region ?_
           refine GL.run (j := 3) 3 [0, 5, 7] [(0, pt m 0), (5, .int .i64 1), (7, .int .i64 0)] (by kernel_rfl) rfl ?_
           refine GL.round rfl ?_
           refine G.seqK fun K527 hK528 => ?_
           refine G.seqK fun K529 hK530 => ?_
           refine G.region ?_
           refine GL.run (j := 2) 2 [0, 5, 7, 31] [(0, pt m 0), (5, .int .i64 1), (7, .int .i64 0), (31, .bool true)] (by kernel_rfl) rfl ?_
           refine GL.k rfl hK530 (fun _ _ h => h) ?_
           refine G.yes rfl ?_
           refine G.skipK hK528 (fun _ _ h => h) ?_
           refine G.seqK fun K531 hK532 => ?_
           refine G.block ?_
           refine G.seqK fun K533 hK534 => ?_
           refine G.region ?_
           refine GL.run (j := 5) 5 [0, 5, 7, 38] [(0, pt m 0), (5, .int .i64 1), (7, .int .i64 0), (38, pt m 3)] (by kernel_rfl) rfl ?_
           refine GL.sem (j := 6) (H.ld (o := 3) (ty := 3) (v := .int .i64 (a0.p : Int)) 0 rfl (by kernel_rfl) rfl) [0, 5, 7, 39] [(0, pt m 0), (5, .int .i64 1), (7, .int .i64 0), (39, .int .i64 (a0.p : Int))] (by kernel_rfl) (by kernel_rfl) rfl ?_
           refine GL.run (j := 7) 1 [0, 5, 7, 40] [(0, pt m 0), (5, .int .i64 1), (7, .int .i64 0), (40, .bool (decide (4 ≤ (a0.p : Int))))] (by kernel_rfl) rfl ?_
           refine GL.k rfl hK534 (fun _ _ h => h) ?_
           cases hb535 : (decide (4 ≤ (a0.p : Int)))
           · skip
             have hb535f := of_decide_eq_false hb535
             refine G.no rfl ?_
             refine G.skipK hK532 (fun _ _ h => h) ?_
             refine G.region ?_
             refine GL.run (j := 3) 3 [0, 5, 7] [(0, pt m 0), (5, .int .i64 1), (7, .int .i64 (-1))] (by kernel_rfl) rfl ?_
             refine GL.round rfl ?_
             refine G.seqK fun K536 hK537 => ?_
             refine G.seqK fun K538 hK539 => ?_
             refine G.region ?_
             refine GL.run (j := 2) 2 [0, 5, 7, 31] [(0, pt m 0), (5, .int .i64 1), (7, .int .i64 (-1)), (31, .bool false)] (by kernel_rfl) rfl ?_
             refine GL.k rfl hK539 (fun _ _ h => h) ?_
             refine G.no rfl ?_
             refine G.exitK hK489 (fun _ _ h => h) ?_
             have e0 : tkN a0 a1 a2 = 1 := by
               unfold tkN
               repeat' split
               all_goals omega
             refine G.fit [0, 5] (M' := [(0, pt m 0), (5, .int .i64 1)]) (by kernel_rfl) ?_
             exact J487 () _ ⟨trivial, H⟩
           · skip
             have hb535f := of_decide_eq_true hb535
             refine G.yes rfl ?_
             refine G.region ?_
             refine GL.run (j := 2) 2 [0, 5, 7] [(0, pt m 0), (5, .int .i64 0), (7, .int .i64 0)] (by kernel_rfl) rfl ?_
             refine GL.k rfl hK532 (fun _ _ h => h) ?_
             refine G.region ?_
             refine GL.run (j := 3) 3 [0, 5, 7] [(0, pt m 0), (5, .int .i64 0), (7, .int .i64 (-1))] (by kernel_rfl) rfl ?_
             refine GL.round rfl ?_
             refine G.seqK fun K540 hK541 => ?_
             refine G.seqK fun K542 hK543 => ?_
             refine G.region ?_
             refine GL.run (j := 2) 2 [0, 5, 7, 31] [(0, pt m 0), (5, .int .i64 0), (7, .int .i64 (-1)), (31, .bool false)] (by kernel_rfl) rfl ?_
             refine GL.k rfl hK543 (fun _ _ h => h) ?_
             refine G.no rfl ?_
             refine G.exitK hK489 (fun _ _ h => h) ?_
             have e0 : tkN a0 a1 a2 = 0 := by
               unfold tkN
               repeat' split
               all_goals omega
             exact absurd (htk.symm.trans e0) (by decide)
       · skip
         have hb500f := of_decide_eq_true hb500
         refine G.yes rfl ?_
         refine G.region ?_
         refine GL.run (j := 2) 2 [0, 5, 7] [(0, pt m 0), (5, .int .i64 2), (7, .int .i64 2)] (by kernel_rfl) rfl ?_
         refine GL.k rfl hK497 (fun _ _ h => h) ?_
         refine G.region ?_
         refine GL.run (j := 3) 3 [0, 5, 7] [(0, pt m 0), (5, .int .i64 2), (7, .int .i64 1)] (by kernel_rfl) rfl ?_
         refine GL.round rfl ?_
         refine G.seqK fun K544 hK545 => ?_
         refine G.seqK fun K546 hK547 => ?_
         refine G.region ?_
         refine GL.run (j := 2) 2 [0, 5, 7, 31] [(0, pt m 0), (5, .int .i64 2), (7, .int .i64 1), (31, .bool true)] (by kernel_rfl) rfl ?_
         refine GL.k rfl hK547 (fun _ _ h => h) ?_
         refine G.yes rfl ?_
         refine G.skipK hK545 (fun _ _ h => h) ?_
         refine G.seqK fun K548 hK549 => ?_
         refine G.block ?_
         refine G.seqK fun K550 hK551 => ?_
         refine G.region ?_
         refine GL.run (j := 5) 5 [0, 5, 7, 38] [(0, pt m 0), (5, .int .i64 2), (7, .int .i64 1), (38, pt m 4)] (by kernel_rfl) rfl ?_
         refine GL.sem (j := 6) (H.ld (o := 4) (ty := 3) (v := .int .i64 (a1.p : Int)) 0 rfl (by kernel_rfl) rfl) [0, 5, 7, 39] [(0, pt m 0), (5, .int .i64 2), (7, .int .i64 1), (39, .int .i64 (a1.p : Int))] (by kernel_rfl) (by kernel_rfl) rfl ?_
         refine GL.run (j := 7) 1 [0, 5, 7, 40] [(0, pt m 0), (5, .int .i64 2), (7, .int .i64 1), (40, .bool (decide (4 ≤ (a1.p : Int))))] (by kernel_rfl) rfl ?_
         refine GL.k rfl hK551 (fun _ _ h => h) ?_
         cases hb552 : (decide (4 ≤ (a1.p : Int)))
         · skip
           have hb552f := of_decide_eq_false hb552
           refine G.no rfl ?_
           refine G.skipK hK549 (fun _ _ h => h) ?_
           refine G.region ?_
           refine GL.run (j := 3) 3 [0, 5, 7] [(0, pt m 0), (5, .int .i64 2), (7, .int .i64 0)] (by kernel_rfl) rfl ?_
           refine GL.round rfl ?_
           refine G.seqK fun K553 hK554 => ?_
           refine G.seqK fun K555 hK556 => ?_
           refine G.region ?_
           refine GL.run (j := 2) 2 [0, 5, 7, 31] [(0, pt m 0), (5, .int .i64 2), (7, .int .i64 0), (31, .bool true)] (by kernel_rfl) rfl ?_
           refine GL.k rfl hK556 (fun _ _ h => h) ?_
           refine G.yes rfl ?_
           refine G.skipK hK554 (fun _ _ h => h) ?_
           refine G.seqK fun K557 hK558 => ?_
           refine G.block ?_
           refine G.seqK fun K559 hK560 => ?_
           refine G.region ?_
           refine GL.run (j := 5) 5 [0, 5, 7, 38] [(0, pt m 0), (5, .int .i64 2), (7, .int .i64 0), (38, pt m 3)] (by kernel_rfl) rfl ?_
           refine GL.sem (j := 6) (H.ld (o := 3) (ty := 3) (v := .int .i64 (a0.p : Int)) 0 rfl (by kernel_rfl) rfl) [0, 5, 7, 39] [(0, pt m 0), (5, .int .i64 2), (7, .int .i64 0), (39, .int .i64 (a0.p : Int))] (by kernel_rfl) (by kernel_rfl) rfl ?_
           refine GL.run (j := 7) 1 [0, 5, 7, 40] [(0, pt m 0), (5, .int .i64 2), (7, .int .i64 0), (40, .bool (decide (4 ≤ (a0.p : Int))))] (by kernel_rfl) rfl ?_
           refine GL.k rfl hK560 (fun _ _ h => h) ?_
           cases hb561 : (decide (4 ≤ (a0.p : Int)))
           · skip
             have hb561f := of_decide_eq_false hb561
             refine G.no rfl ?_
             refine G.skipK hK558 (fun _ _ h => h) ?_
             refine G.region ?_
             refine GL.run (j := 3) 3 [0, 5, 7] [(0, pt m 0), (5, .int .i64 2), (7, .int .i64 (-1))] (by kernel_rfl) rfl ?_
             refine GL.round rfl ?_
             refine G.seqK fun K562 hK563 => ?_
             refine G.seqK fun K564 hK565 => ?_
             refine G.region ?_
             refine GL.run (j := 2) 2 [0, 5, 7, 31] [(0, pt m 0), (5, .int .i64 2), (7, .int .i64 (-1)), (31, .bool false)] (by kernel_rfl) rfl ?_
             refine GL.k rfl hK565 (fun _ _ h => h) ?_
             refine G.no rfl ?_
             refine G.exitK hK489 (fun _ _ h => h) ?_
             have e0 : tkN a0 a1 a2 = 2 := by
               unfold tkN
               repeat' split
               all_goals omega
             exact absurd (htk.symm.trans e0) (by decide)
           · skip
             have hb561f := of_decide_eq_true hb561
             refine G.yes rfl ?_
             refine G.region ?_
             refine GL.run (j := 2) 2 [0, 5, 7] [(0, pt m 0), (5, .int .i64 0), (7, .int .i64 0)] (by kernel_rfl) rfl ?_
             refine GL.k rfl hK558 (fun _ _ h => h) ?_
             refine G.region ?_
             refine GL.run (j := 3) 3 [0, 5, 7] [(0, pt m 0), (5, .int .i64 0), (7, .int .i64 (-1))] (by kernel_rfl) rfl ?_
             refine GL.round rfl ?_
             refine G.seqK fun K566 hK567 => ?_
             refine G.seqK fun K568 hK569 => ?_
             refine G.region ?_
             refine GL.run (j := 2) 2 [0, 5, 7, 31] [(0, pt m 0), (5, .int .i64 0), (7, .int .i64 (-1)), (31, .bool false)] (by kernel_rfl) rfl ?_
             refine GL.k rfl hK569 (fun _ _ h => h) ?_
             refine G.no rfl ?_
             refine G.exitK hK489 (fun _ _ h => h) ?_
             have e0 : tkN a0 a1 a2 = 0 := by
               unfold tkN
               repeat' split
               all_goals omega
             exact absurd (htk.symm.trans e0) (by decide)
         · skip
           have hb552f := of_decide_eq_true hb552
           refine G.yes rfl ?_
           refine G.region ?_
           refine GL.run (j := 2) 2 [0, 5, 7] [(0, pt m 0), (5, .int .i64 1), (7, .int .i64 1)] (by kernel_rfl) rfl ?_
           refine GL.k rfl hK549 (fun _ _ h => h) ?_
           refine G.region ?_
           refine GL.run (j := 3) 3 [0, 5, 7] [(0, pt m 0), (5, .int .i64 1), (7, .int .i64 0)] (by kernel_rfl) rfl ?_
           refine GL.round rfl ?_
           refine G.seqK fun K570 hK571 => ?_
           refine G.seqK fun K572 hK573 => ?_
           refine G.region ?_
           refine GL.run (j := 2) 2 [0, 5, 7, 31] [(0, pt m 0), (5, .int .i64 1), (7, .int .i64 0), (31, .bool true)] (by kernel_rfl) rfl ?_
           refine GL.k rfl hK573 (fun _ _ h => h) ?_
           refine G.yes rfl ?_
           refine G.skipK hK571 (fun _ _ h => h) ?_
           refine G.seqK fun K574 hK575 => ?_
           refine G.block ?_
           refine G.seqK fun K576 hK577 => ?_
           refine G.region ?_
           refine GL.run (j := 5) 5 [0, 5, 7, 38] [(0, pt m 0), (5, .int .i64 1), (7, .int .i64 0), (38, pt m 3)] (by kernel_rfl) rfl ?_
           refine GL.sem (j := 6) (H.ld (o := 3) (ty := 3) (v := .int .i64 (a0.p : Int)) 0 rfl (by kernel_rfl) rfl) [0, 5, 7, 39] [(0, pt m 0), (5, .int .i64 1), (7, .int .i64 0), (39, .int .i64 (a0.p : Int))] (by kernel_rfl) (by kernel_rfl) rfl ?_
           refine GL.run (j := 7) 1 [0, 5, 7, 40] [(0, pt m 0), (5, .int .i64 1), (7, .int .i64 0), (40, .bool (decide (4 ≤ (a0.p : Int))))] (by kernel_rfl) rfl ?_
           refine GL.k rfl hK577 (fun _ _ h => h) ?_
           cases hb578 : (decide (4 ≤ (a0.p : Int)))
           · skip
             have hb578f := of_decide_eq_false hb578
             refine G.no rfl ?_
             refine G.skipK hK575 (fun _ _ h => h) ?_
             refine G.region ?_
             refine GL.run (j := 3) 3 [0, 5, 7] [(0, pt m 0), (5, .int .i64 1), (7, .int .i64 (-1))] (by kernel_rfl) rfl ?_
             refine GL.round rfl ?_
             refine G.seqK fun K579 hK580 => ?_
             refine G.seqK fun K581 hK582 => ?_
             refine G.region ?_
             refine GL.run (j := 2) 2 [0, 5, 7, 31] [(0, pt m 0), (5, .int .i64 1), (7, .int .i64 (-1)), (31, .bool false)] (by kernel_rfl) rfl ?_
             refine GL.k rfl hK582 (fun _ _ h => h) ?_
             refine G.no rfl ?_
             refine G.exitK hK489 (fun _ _ h => h) ?_
             have e0 : tkN a0 a1 a2 = 1 := by
               unfold tkN
               repeat' split
               all_goals omega
             refine G.fit [0, 5] (M' := [(0, pt m 0), (5, .int .i64 1)]) (by kernel_rfl) ?_
             exact J487 () _ ⟨trivial, H⟩
           · skip
             have hb578f := of_decide_eq_true hb578
             refine G.yes rfl ?_
             refine G.region ?_
             refine GL.run (j := 2) 2 [0, 5, 7] [(0, pt m 0), (5, .int .i64 0), (7, .int .i64 0)] (by kernel_rfl) rfl ?_
             refine GL.k rfl hK575 (fun _ _ h => h) ?_
             refine G.region ?_
             refine GL.run (j := 3) 3 [0, 5, 7] [(0, pt m 0), (5, .int .i64 0), (7, .int .i64 (-1))] (by kernel_rfl) rfl ?_
             refine GL.round rfl ?_
             refine G.seqK fun K583 hK584 => ?_
             refine G.seqK fun K585 hK586 => ?_
             refine G.region ?_
             refine GL.run (j := 2) 2 [0, 5, 7, 31] [(0, pt m 0), (5, .int .i64 0), (7, .int .i64 (-1)), (31, .bool false)] (by kernel_rfl) rfl ?_
             refine GL.k rfl hK586 (fun _ _ h => h) ?_
             refine G.no rfl ?_
             refine G.exitK hK489 (fun _ _ h => h) ?_
             have e0 : tkN a0 a1 a2 = 0 := by
               unfold tkN
               repeat' split
               all_goals omega
             exact absurd (htk.symm.trans e0) (by decide)
     · skip
       rintro _ w587 ⟨hi588, H589⟩
       refine G.eq (M' := [(0, pt m 0), (5, .int .i64 1)]) rfl ?_
       have H589 : Hp w S [.blk m [.slice q0 a0.l.length k0, .slice q1 a1.l.length k1, .slice q2 a2.l.length k2, .int .i64 (a0.p : Int), .int .i64 (a1.p : Int), .int .i64 (a2.p : Int), .bool cl] 39, .que q0 a0.l.length k0 9 (mq a0.l), .que q1 a1.l.length k1 9 (mq a1.l), .que q2 a2.l.length k2 9 (mq a2.l)] w587 := H589
       refine G.seqK fun K590 hK591 => ?_
       refine G.seqK fun K592 hK593 => ?_
       refine G.region ?_
       refine GL.run (j := 1) 1 [0, 5, 42] [(0, pt m 0), (5, .int .i64 1), (42, .int .i64 0)] (by kernel_rfl) rfl ?_
       refine GL.k rfl hK593 (fun _ _ h => h) ?_
       refine G.block ?_
       refine G.unroll 3 ?_
       refine G.seqK fun K594 hK595 => ?_
       refine G.region ?_
       refine GL.run (j := 1) 1 [0, 5, 42, 43] [(0, pt m 0), (5, .int .i64 1), (42, .int .i64 0), (43, .bool true)] (by kernel_rfl) rfl ?_
       refine GL.k rfl hK595 (fun _ _ h => h) ?_
       refine G.seqK fun K596 hK597 => ?_
       refine G.yes rfl ?_
       refine G.skipK hK597 (fun _ _ h => h) ?_
       refine G.seqK fun K598 hK599 => ?_
       refine G.block ?_
       refine G.seqK fun K600 hK601 => ?_
       refine G.region ?_
       refine GL.run (j := 2) 2 [0, 5, 8, 42] [(0, pt m 0), (5, .int .i64 1), (8, .int .i64 0), (42, .int .i64 0)] (by kernel_rfl) rfl ?_
       refine GL.k rfl hK601 (fun _ _ h => h) ?_
       refine G.seqK fun K602 hK603 => ?_
       refine G.region ?_
       refine GL.run (j := 5) 5 [0, 5, 8, 42, 49] [(0, pt m 0), (5, .int .i64 1), (8, .int .i64 0), (42, .int .i64 0), (49, pt m 0)] (by kernel_rfl) rfl ?_
       refine GL.sem (j := 6) (H589.ld (o := 0) (ty := 36) (v := .slice q0 a0.l.length k0) 0 rfl (by kernel_rfl) rfl) [0, 5, 8, 42, 50] [(0, pt m 0), (5, .int .i64 1), (8, .int .i64 0), (42, .int .i64 0), (50, .slice q0 a0.l.length k0)] (by kernel_rfl) (by kernel_rfl) rfl ?_
       refine GL.run (j := 8) 2 [0, 5, 8, 42, 52] [(0, pt m 0), (5, .int .i64 1), (8, .int .i64 0), (42, .int .i64 0), (52, .bool (decide (0 < (a0.l.length : Int))))] (by kernel_rfl) rfl ?_
       refine GL.k rfl hK603 (fun _ _ h => h) ?_
       have hb604 : (decide (0 < (a0.l.length : Int))) = true := by assumption
       rw [hb604]
       refine G.yes rfl ?_
       refine G.tail 10 (by kernel_rfl) (by kernel_rfl) ?_
       have H605 := H589.drew
       generalize ({ w587 with drawn := w587.drawn + 1 } : World) = w606 at H605 ⊢
       refine GS.run (j := 5) 5 [0, 5, 42, 53, 54, 57] [(0, pt m 0), (5, .int .i64 1), (42, .int .i64 0), (53, pt m 0), (54, .int .i64 0), (57, pt m 3)] (by kernel_rfl) rfl rfl ?_
       refine GS.sem (j := 6) (H605.ld (o := 3) (ty := 3) (v := .int .i64 (a0.p : Int)) 0 rfl (by kernel_rfl) rfl) [0, 5, 42, 53, 54, 58] [(0, pt m 0), (5, .int .i64 1), (42, .int .i64 0), (53, pt m 0), (54, .int .i64 0), (58, .int .i64 (a0.p : Int))] (by kernel_rfl) (by kernel_rfl) rfl rfl ?_
       refine GS.run (j := 10) 4 [0, 5, 42, 59, 62] [(0, pt m 0), (5, .int .i64 1), (42, .int .i64 0), (59, .int .i64 (IntKind.i64.wrap ((a0.p : Int) + 1))), (62, pt m 3)] (by kernel_rfl) rfl rfl ?_
       have e607 : (IntKind.i64.wrap ((a0.p : Int) + 1)) = ((a0.p + 1 : Nat) : Int) := by rw [in_i64 (by omega)]; omega
       refine GS.eq (M' := [(0, pt m 0), (5, .int .i64 1), (42, .int .i64 0), (59, .int .i64 ((a0.p + 1 : Nat) : Int)), (62, pt m 3)]) (by rw [e607]) ?_
       clear e607
       refine GS.tail rfl ?_
       obtain ⟨w608, r609, H610⟩ := H605.st (P := Try.prog) (o := 3) (ty := 3) (v := .int .i64 ((a0.p + 1 : Nat) : Int)) 0 rfl (by kernel_rfl) (by simp) rfl
       have H610 : Hp w S [.blk m [.slice q0 a0.l.length k0, .slice q1 a1.l.length k1, .slice q2 a2.l.length k2, .int .i64 ((a0.p + 1 : Nat) : Int), .int .i64 (a1.p : Int), .int .i64 (a2.p : Int), .bool cl] 39, .que q0 a0.l.length k0 9 (mq a0.l), .que q1 a1.l.length k1 9 (mq a1.l), .que q2 a2.l.length k2 9 (mq a2.l)] w608 := H610
       refine GL.semU (j := 11) r609 [0, 5, 42] [(0, pt m 0), (5, .int .i64 1), (42, .int .i64 0)] (by kernel_rfl) rfl rfl rfl ?_
       refine GL.k rfl hK599 (fun _ _ h => h) ?_
       refine G.region ?_
       refine GL.run (j := 2) 2 [0, 5, 42] [(0, pt m 0), (5, .int .i64 1), (42, .int .i64 1)] (by kernel_rfl) rfl ?_
       refine GL.round rfl ?_
       refine G.seqK fun K611 hK612 => ?_
       refine G.region ?_
       refine GL.run (j := 1) 1 [0, 5, 42, 43] [(0, pt m 0), (5, .int .i64 1), (42, .int .i64 1), (43, .bool true)] (by kernel_rfl) rfl ?_
       refine GL.k rfl hK612 (fun _ _ h => h) ?_
       refine G.seqK fun K613 hK614 => ?_
       refine G.yes rfl ?_
       refine G.skipK hK614 (fun _ _ h => h) ?_
       refine G.seqK fun K615 hK616 => ?_
       refine G.block ?_
       refine G.seqK fun K617 hK618 => ?_
       refine G.region ?_
       refine GL.run (j := 2) 2 [0, 5, 8, 42] [(0, pt m 0), (5, .int .i64 1), (8, .int .i64 1), (42, .int .i64 1)] (by kernel_rfl) rfl ?_
       refine GL.k rfl hK618 (fun _ _ h => h) ?_
       refine G.seqK fun K619 hK620 => ?_
       refine G.region ?_
       refine GL.run (j := 5) 5 [0, 5, 8, 42, 49] [(0, pt m 0), (5, .int .i64 1), (8, .int .i64 1), (42, .int .i64 1), (49, pt m 1)] (by kernel_rfl) rfl ?_
       refine GL.sem (j := 6) (H610.ld (o := 1) (ty := 36) (v := .slice q1 a1.l.length k1) 0 rfl (by kernel_rfl) rfl) [0, 5, 8, 42, 50] [(0, pt m 0), (5, .int .i64 1), (8, .int .i64 1), (42, .int .i64 1), (50, .slice q1 a1.l.length k1)] (by kernel_rfl) (by kernel_rfl) rfl ?_
       refine GL.run (j := 8) 2 [0, 5, 8, 42, 52] [(0, pt m 0), (5, .int .i64 1), (8, .int .i64 1), (42, .int .i64 1), (52, .bool (decide (0 < (a1.l.length : Int))))] (by kernel_rfl) rfl ?_
       refine GL.k rfl hK620 (fun _ _ h => h) ?_
       have hb621 : (decide (0 < (a1.l.length : Int))) = true := by assumption
       rw [hb621]
       refine G.yes rfl ?_
       refine G.tail 10 (by kernel_rfl) (by kernel_rfl) ?_
       have H622 := H610.drew
       generalize ({ w608 with drawn := w608.drawn + 1 } : World) = w623 at H622 ⊢
       refine GS.run (j := 5) 5 [0, 5, 42, 53, 54, 57] [(0, pt m 0), (5, .int .i64 1), (42, .int .i64 1), (53, pt m 0), (54, .int .i64 1), (57, pt m 4)] (by kernel_rfl) rfl rfl ?_
       refine GS.sem (j := 6) (H622.ld (o := 4) (ty := 3) (v := .int .i64 (a1.p : Int)) 0 rfl (by kernel_rfl) rfl) [0, 5, 42, 53, 54, 58] [(0, pt m 0), (5, .int .i64 1), (42, .int .i64 1), (53, pt m 0), (54, .int .i64 1), (58, .int .i64 (a1.p : Int))] (by kernel_rfl) (by kernel_rfl) rfl rfl ?_
       refine GS.run (j := 10) 4 [0, 5, 42, 59, 62] [(0, pt m 0), (5, .int .i64 1), (42, .int .i64 1), (59, .int .i64 (IntKind.i64.wrap ((a1.p : Int) + 1))), (62, pt m 4)] (by kernel_rfl) rfl rfl ?_
       have e624 : (IntKind.i64.wrap ((a1.p : Int) + 1)) = ((a1.p + 1 : Nat) : Int) := by rw [in_i64 (by omega)]; omega
       refine GS.eq (M' := [(0, pt m 0), (5, .int .i64 1), (42, .int .i64 1), (59, .int .i64 ((a1.p + 1 : Nat) : Int)), (62, pt m 4)]) (by rw [e624]) ?_
       clear e624
       refine GS.tail rfl ?_
       obtain ⟨w625, r626, H627⟩ := H622.st (P := Try.prog) (o := 4) (ty := 3) (v := .int .i64 ((a1.p + 1 : Nat) : Int)) 0 rfl (by kernel_rfl) (by simp) rfl
       have H627 : Hp w S [.blk m [.slice q0 a0.l.length k0, .slice q1 a1.l.length k1, .slice q2 a2.l.length k2, .int .i64 ((a0.p + 1 : Nat) : Int), .int .i64 ((a1.p + 1 : Nat) : Int), .int .i64 (a2.p : Int), .bool cl] 39, .que q0 a0.l.length k0 9 (mq a0.l), .que q1 a1.l.length k1 9 (mq a1.l), .que q2 a2.l.length k2 9 (mq a2.l)] w625 := H627
       refine GL.semU (j := 11) r626 [0, 5, 42] [(0, pt m 0), (5, .int .i64 1), (42, .int .i64 1)] (by kernel_rfl) rfl rfl rfl ?_
       refine GL.k rfl hK616 (fun _ _ h => h) ?_
       refine G.region ?_
       refine GL.run (j := 2) 2 [0, 5, 42] [(0, pt m 0), (5, .int .i64 1), (42, .int .i64 2)] (by kernel_rfl) rfl ?_
       refine GL.round rfl ?_
       refine G.seqK fun K628 hK629 => ?_
       refine G.region ?_
       refine GL.run (j := 1) 1 [0, 5, 42, 43] [(0, pt m 0), (5, .int .i64 1), (42, .int .i64 2), (43, .bool true)] (by kernel_rfl) rfl ?_
       refine GL.k rfl hK629 (fun _ _ h => h) ?_
       refine G.seqK fun K630 hK631 => ?_
       refine G.yes rfl ?_
       refine G.skipK hK631 (fun _ _ h => h) ?_
       refine G.seqK fun K632 hK633 => ?_
       refine G.block ?_
       refine G.seqK fun K634 hK635 => ?_
       refine G.region ?_
       refine GL.run (j := 2) 2 [0, 5, 8, 42] [(0, pt m 0), (5, .int .i64 1), (8, .int .i64 2), (42, .int .i64 2)] (by kernel_rfl) rfl ?_
       refine GL.k rfl hK635 (fun _ _ h => h) ?_
       refine G.seqK fun K636 hK637 => ?_
       refine G.region ?_
       refine GL.run (j := 5) 5 [0, 5, 8, 42, 49] [(0, pt m 0), (5, .int .i64 1), (8, .int .i64 2), (42, .int .i64 2), (49, pt m 2)] (by kernel_rfl) rfl ?_
       refine GL.sem (j := 6) (H627.ld (o := 2) (ty := 36) (v := .slice q2 a2.l.length k2) 0 rfl (by kernel_rfl) rfl) [0, 5, 8, 42, 50] [(0, pt m 0), (5, .int .i64 1), (8, .int .i64 2), (42, .int .i64 2), (50, .slice q2 a2.l.length k2)] (by kernel_rfl) (by kernel_rfl) rfl ?_
       refine GL.run (j := 8) 2 [0, 5, 8, 42, 52] [(0, pt m 0), (5, .int .i64 1), (8, .int .i64 2), (42, .int .i64 2), (52, .bool (decide (0 < (a2.l.length : Int))))] (by kernel_rfl) rfl ?_
       refine GL.k rfl hK637 (fun _ _ h => h) ?_
       have hb638 : (decide (0 < (a2.l.length : Int))) = true := by assumption
       rw [hb638]
       refine G.yes rfl ?_
       refine G.tail 10 (by kernel_rfl) (by kernel_rfl) ?_
       have H639 := H627.drew
       generalize ({ w625 with drawn := w625.drawn + 1 } : World) = w640 at H639 ⊢
       refine GS.run (j := 5) 5 [0, 5, 42, 53, 54, 57] [(0, pt m 0), (5, .int .i64 1), (42, .int .i64 2), (53, pt m 0), (54, .int .i64 2), (57, pt m 5)] (by kernel_rfl) rfl rfl ?_
       refine GS.sem (j := 6) (H639.ld (o := 5) (ty := 3) (v := .int .i64 (a2.p : Int)) 0 rfl (by kernel_rfl) rfl) [0, 5, 42, 53, 54, 58] [(0, pt m 0), (5, .int .i64 1), (42, .int .i64 2), (53, pt m 0), (54, .int .i64 2), (58, .int .i64 (a2.p : Int))] (by kernel_rfl) (by kernel_rfl) rfl rfl ?_
       refine GS.run (j := 10) 4 [0, 5, 42, 59, 62] [(0, pt m 0), (5, .int .i64 1), (42, .int .i64 2), (59, .int .i64 (IntKind.i64.wrap ((a2.p : Int) + 1))), (62, pt m 5)] (by kernel_rfl) rfl rfl ?_
       have e641 : (IntKind.i64.wrap ((a2.p : Int) + 1)) = ((a2.p + 1 : Nat) : Int) := by rw [in_i64 (by omega)]; omega
       refine GS.eq (M' := [(0, pt m 0), (5, .int .i64 1), (42, .int .i64 2), (59, .int .i64 ((a2.p + 1 : Nat) : Int)), (62, pt m 5)]) (by rw [e641]) ?_
       clear e641
       refine GS.tail rfl ?_
       obtain ⟨w642, r643, H644⟩ := H639.st (P := Try.prog) (o := 5) (ty := 3) (v := .int .i64 ((a2.p + 1 : Nat) : Int)) 0 rfl (by kernel_rfl) (by simp) rfl
       have H644 : Hp w S [.blk m [.slice q0 a0.l.length k0, .slice q1 a1.l.length k1, .slice q2 a2.l.length k2, .int .i64 ((a0.p + 1 : Nat) : Int), .int .i64 ((a1.p + 1 : Nat) : Int), .int .i64 ((a2.p + 1 : Nat) : Int), .bool cl] 39, .que q0 a0.l.length k0 9 (mq a0.l), .que q1 a1.l.length k1 9 (mq a1.l), .que q2 a2.l.length k2 9 (mq a2.l)] w642 := H644
       refine GL.semU (j := 11) r643 [0, 5, 42] [(0, pt m 0), (5, .int .i64 1), (42, .int .i64 2)] (by kernel_rfl) rfl rfl rfl ?_
       refine GL.k rfl hK633 (fun _ _ h => h) ?_
       refine G.region ?_
       refine GL.run (j := 2) 2 [0, 5, 42] [(0, pt m 0), (5, .int .i64 1), (42, .int .i64 3)] (by kernel_rfl) rfl ?_
       refine GL.round rfl ?_
       refine G.seqK fun K645 hK646 => ?_
       refine G.region ?_
       refine GL.run (j := 1) 1 [0, 5, 42, 43] [(0, pt m 0), (5, .int .i64 1), (42, .int .i64 3), (43, .bool false)] (by kernel_rfl) rfl ?_
       refine GL.k rfl hK646 (fun _ _ h => h) ?_
       refine G.seqK fun K647 hK648 => ?_
       refine G.no rfl ?_
       refine G.exitK hK591 (fun _ _ h => h) ?_
       refine G.seqK fun K649 hK650 => ?_
       refine G.region ?_
       refine GL.run (j := 5) 5 [0, 5, 68] [(0, pt m 0), (5, .int .i64 1), (68, pt m 4)] (by kernel_rfl) rfl ?_
       obtain ⟨w651, r652, H653⟩ := H644.st (P := Try.prog) (o := 4) (ty := 3) (v := .int .i64 0) 0 rfl (by kernel_rfl) (by simp) rfl
       have H653 : Hp w S [.blk m [.slice q0 a0.l.length k0, .slice q1 a1.l.length k1, .slice q2 a2.l.length k2, .int .i64 ((a0.p + 1 : Nat) : Int), .int .i64 0, .int .i64 ((a2.p + 1 : Nat) : Int), .bool cl] 39, .que q0 a0.l.length k0 9 (mq a0.l), .que q1 a1.l.length k1 9 (mq a1.l), .que q2 a2.l.length k2 9 (mq a2.l)] w651 := H653
       refine GL.semU (j := 6) r652 [0, 5] [(0, pt m 0), (5, .int .i64 1)] (by kernel_rfl) rfl rfl rfl ?_
       refine GL.k rfl hK650 (fun _ _ h => h) ?_
       refine G.seqK fun K654 hK655 => ?_
       refine G.region ?_
       refine GL.run (j := 5) 5 [0, 5, 73] [(0, pt m 0), (5, .int .i64 1), (73, pt m 1)] (by kernel_rfl) rfl ?_
       refine GL.sem (j := 6) (H653.ld (o := 1) (ty := 36) (v := .slice q1 a1.l.length k1) 0 rfl (by kernel_rfl) rfl) [0, 5, 74] [(0, pt m 0), (5, .int .i64 1), (74, .slice q1 a1.l.length k1)] (by kernel_rfl) (by kernel_rfl) rfl ?_
       refine GL.sem (j := 7) (run_idxRd (P := Try.prog) (k := .i64) (t := 36) (A := q1) (len := a1.l.length) (cap := k1) (j := 0) (by kernel_rfl) rfl (H653.rdQue 2 rfl) (mq_length _) (by omega)) [0, 5, 75] [(0, pt m 0), (5, .int .i64 1), (75, .pointer (Option.map (fun x => Addr.add x 0) q1))] (by kernel_rfl) (by kernel_rfl) rfl ?_
       refine GL.sem (j := 8) (run_ldRd (P := Try.prog) (ty := 9) (A := q1) (j := 0) (v := .string (strOf m_.b)) (by kernel_rfl) (H653.rdQue 2 rfl) (by rw [hmq]; rfl)) [0, 5, 76] [(0, pt m 0), (5, .int .i64 1), (76, .string (strOf m_.b))] (by kernel_rfl) (by kernel_rfl) rfl ?_
       refine GL.run (j := 9) 1 [0, 5, 9] [(0, pt m 0), (5, .int .i64 1), (9, .string (strOf m_.b))] (by kernel_rfl) rfl ?_
       refine GL.k rfl hK655 (fun _ _ h => h) ?_
       refine G.seqK fun K656 hK657 => ?_
       refine G.tail 12 (by kernel_rfl) (by kernel_rfl) ?_
       have H658 := H653.drew
       generalize ({ w651 with drawn := w651.drawn + 1 } : World) = w659 at H658 ⊢
       refine GS.run (j := 7) 7 [5, 9, 77, 78, 83] [(5, .int .i64 1), (9, .string (strOf m_.b)), (77, pt m 0), (78, .int .i64 1), (83, pt m 1)] (by kernel_rfl) rfl rfl ?_
       refine GS.sem (j := 8) (H658.ld (o := 1) (ty := 36) (v := .slice q1 a1.l.length k1) 0 rfl (by kernel_rfl) rfl) [5, 9, 77, 78, 84] [(5, .int .i64 1), (9, .string (strOf m_.b)), (77, pt m 0), (78, .int .i64 1), (84, .slice q1 a1.l.length k1)] (by kernel_rfl) (by kernel_rfl) rfl rfl ?_
       refine GS.sem (j := 9) (run_tail1 (P := Try.prog) (t := 36) (n := a1.l.length) (c := k1) (A := q1) (by kernel_rfl) (by omega) (by omega)) [5, 9, 77, 78, 85] [(5, .int .i64 1), (9, .string (strOf m_.b)), (77, pt m 0), (78, .int .i64 1), (85, .slice (if k1 = 1 then q1 else q1.map fun a => Addr.add a 1) (a1.l.length - 1) (k1 - 1))] (by kernel_rfl) (by kernel_rfl) rfl rfl ?_
       refine GS.run (j := 12) 3 [5, 9, 85, 88] [(5, .int .i64 1), (9, .string (strOf m_.b)), (85, .slice (if k1 = 1 then q1 else q1.map fun a => Addr.add a 1) (a1.l.length - 1) (k1 - 1)), (88, pt m 1)] (by kernel_rfl) rfl rfl ?_
       refine GS.tail rfl ?_
       obtain ⟨w660, r661, H662⟩ := H658.st (P := Try.prog) (o := 1) (ty := 36) (v := .slice (if k1 = 1 then q1 else q1.map fun a => Addr.add a 1) (a1.l.length - 1) (k1 - 1)) 0 rfl (by kernel_rfl) (by simp) rfl
       have H662 : Hp w S [.blk m [.slice q0 a0.l.length k0, .slice (if k1 = 1 then q1 else q1.map fun a => Addr.add a 1) (a1.l.length - 1) (k1 - 1), .slice q2 a2.l.length k2, .int .i64 ((a0.p + 1 : Nat) : Int), .int .i64 0, .int .i64 ((a2.p + 1 : Nat) : Int), .bool cl] 39, .que q0 a0.l.length k0 9 (mq a0.l), .que q1 a1.l.length k1 9 (mq a1.l), .que q2 a2.l.length k2 9 (mq a2.l)] w660 := H662
       refine GL.semU (j := 13) r661 [5, 9] [(5, .int .i64 1), (9, .string (strOf m_.b))] (by kernel_rfl) rfl rfl rfl ?_
       refine GL.k rfl hK657 (fun _ _ h => h) ?_
       refine G.seqK fun K663 hK664 => ?_
       refine G.region ?_
       refine GL.run (j := 5) 5 [2, 3, 4] [(2, .string (strOf m_.b)), (3, .int .i64 1), (4, .bool true)] (by kernel_rfl) rfl ?_
       refine GL.k rfl hK664 (fun _ _ h => h) ?_
       refine G.ret ?_
       intro F_ hF_ hM_
       refine hRet _ _ (bodyPost_3 rfl (RV.tmp rfl) (RV.tmp rfl) (RV.tmp rfl) ?_ F_ hF_ hM_)
       have HT := H662.queTail 2 (x := .string (strOf m_.b)) (xs := mq t_) (by rw [← hmq]; rfl) (by rw [mq_length, hlk]; rfl)
       have HZ : Hp w S [.blk m [.slice q0 a0.pass.l.length k0, .slice (if k1 = 1 then q1 else q1.map fun a => Addr.add a 1) ((a1.took t_).l.length) (k1 - 1), .slice q2 a2.pass.l.length k2, .int .i64 (a0.pass.p : Int), .int .i64 (((a1.took t_).p : Nat) : Int), .int .i64 (a2.pass.p : Int), .bool cl] 39, .que q0 a0.pass.l.length k0 9 (mq a0.pass.l), .que (if k1 = 1 then q1 else q1.map fun a => Addr.add a 1) ((a1.took t_).l.length) (k1 - 1) 9 (mq (a1.took t_).l), .que q2 a2.pass.l.length k2 9 (mq a2.pass.l)] w660 := by rw [show (a1.took t_).l.length = a1.l.length - 1 by rw [hlk]; rfl, show a0.pass.p = a0.p + 1 by unfold Lane.pass; exact if_neg (by omega), show a2.pass.p = a2.p + 1 by unfold Lane.pass; exact if_neg (by omega)]; exact HT
       exact ⟨_, _, rfl, HZ⟩
end Go.Proofs.Ythcdelpdgkoioaa
