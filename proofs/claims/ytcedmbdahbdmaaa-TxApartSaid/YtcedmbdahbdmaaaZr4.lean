/- Part 4 of what txApart_proved stands on. -/
import Derived.Test.YtcedmbdahbdmaaaZr3
set_option linter.unusedVariables false
set_option maxRecDepth 100000
namespace Go.Proofs.Ytcedmbdahbdmaaa
open Go.RowKit
theorem Parse_addr (x0 x1 x2 x3 x4 x5 x6 x7 x8 x9 x10 x11 x12 x13 x14 x15 x16 x17 x18 x19 : UInt8) (A : Option Addr) (c : Nat) (w : World) (hr : RdS w A (by8 ([118, 169, 20, x0, x1, x2, x3, x4, x5, x6, x7, x8, x9, x10, x11, x12, x13, x14, x15, x16, x17, x18, x19, 136, 172] : List UInt8))) (hc : 25 ≤ c) : Calls Try.prog 11 #[.slice A 25 c] w fun e w' => e = .returned (.agg #[.int .i64 1, .int .u8 (x0.toNat : Int), .int .u8 (x1.toNat : Int), .int .u8 (x2.toNat : Int), .int .u8 (x3.toNat : Int), .int .u8 (x4.toNat : Int), .int .u8 (x5.toNat : Int), .int .u8 (x6.toNat : Int), .int .u8 (x7.toNat : Int), .int .u8 (x8.toNat : Int), .int .u8 (x9.toNat : Int), .int .u8 (x10.toNat : Int), .int .u8 (x11.toNat : Int), .int .u8 (x12.toNat : Int), .int .u8 (x13.toNat : Int), .int .u8 (x14.toNat : Int), .int .u8 (x15.toNat : Int), .int .u8 (x16.toNat : Int), .int .u8 (x17.toNat : Int), .int .u8 (x18.toNat : Int), .int .u8 (x19.toNat : Int), .slice none 0 0]) ∧ Hp w [] [] w' := by
  refine calls_G (args := [.slice A 25 c]) Try.func11 rfl Try.ntmps11 rfl ?_
  intro Q0 hRet hNor hPan
  have H := Hp.start w
  have H : Hp w [] [] w := H
  refine G.seqK fun K1 hK2 => ?_
  refine G.region ?_
  obtain ⟨p3, w4, r5, H6⟩ := H.alloc (P := Try.prog) 43 [.int .i64 0, .int .u8 0, .int .u8 0, .int .u8 0, .int .u8 0, .int .u8 0, .int .u8 0, .int .u8 0, .int .u8 0, .int .u8 0, .int .u8 0, .int .u8 0, .int .u8 0, .int .u8 0, .int .u8 0, .int .u8 0, .int .u8 0, .int .u8 0, .int .u8 0, .int .u8 0, .int .u8 0, .slice none 0 0] (by kernel_rfl)
  have H6 : Hp w [] [.blk p3 [.int .i64 0, .int .u8 0, .int .u8 0, .int .u8 0, .int .u8 0, .int .u8 0, .int .u8 0, .int .u8 0, .int .u8 0, .int .u8 0, .int .u8 0, .int .u8 0, .int .u8 0, .int .u8 0, .int .u8 0, .int .u8 0, .int .u8 0, .int .u8 0, .int .u8 0, .int .u8 0, .int .u8 0, .slice none 0 0] 43] w4 := H6
  refine GL.sem (j := 1) (r5) [0, 2] [(0, .slice A 25 c), (2, pt p3 0)] (by kernel_rfl) (by kernel_rfl) rfl ?_
  refine GL.k rfl hK2 (fun _ _ h => h) ?_
  refine G.seqK fun K7 hK8 => ?_
  refine G.seqK fun K9 hK10 => ?_
  refine G.region ?_
  refine GL.run (j := 3) 3 [0, 2, 11] [(0, .slice A 25 c), (2, pt p3 0), (11, .bool true)] (by kernel_rfl) rfl ?_
  refine GL.k rfl hK10 (fun _ _ h => h) ?_
  refine G.yes rfl ?_
  refine G.seqK fun K11 hK12 => ?_
  refine G.region ?_
  refine GL.run (j := 1) 1 [0, 2, 12] [(0, .slice A 25 c), (2, pt p3 0), (12, .slice A 25 c)] (by kernel_rfl) rfl ?_
  refine GL.sem (j := 2) (run_sliceSl (P := Try.prog) (lo := some (.int .i64 3)) (hi := some (.int .i64 23)) (t := 38) (len := 25) (cap := c) (A := A) (l := 3) (h := 23) (by kernel_rfl) (Or.inr ⟨_, _, rfl, rfl⟩) (Or.inr ⟨_, _, rfl, rfl⟩) (by omega) (by omega)) [0, 2, 13] [(0, .slice A 25 c), (2, pt p3 0), (13, .slice (if c = 3 then A else Option.map (fun x => Addr.add x 3) A) 20 (c - 3))] (by kernel_rfl) (by kernel_rfl) rfl ?_
  refine GL.sem (j := 3) (run_s2a (P := Try.prog) (t := 28) (len := 20) (cap := (c - 3)) (n := 20) (A := (if c = 3 then A else Option.map (fun x => Addr.add x 3) A)) (by kernel_rfl) (by omega)) [0, 2, 14] [(0, .slice A 25 c), (2, pt p3 0), (14, .pointer (if c = 3 then A else Option.map (fun x => Addr.add x 3) A))] (by kernel_rfl) (by kernel_rfl) rfl ?_
  refine GL.sem (j := 4) (run_ldArr (P := Try.prog) (ty := 28) (m := 20) (A := (if c = 3 then A else Option.map (fun x => Addr.add x 3) A)) (xs := by8 ([x0, x1, x2, x3, x4, x5, x6, x7, x8, x9, x10, x11, x12, x13, x14, x15, x16, x17, x18, x19] : List UInt8)) (by kernel_rfl) (RdS.cut8 (cap := c) (hr.hp H6) 3 23 (cs := ([x0, x1, x2, x3, x4, x5, x6, x7, x8, x9, x10, x11, x12, x13, x14, x15, x16, x17, x18, x19] : List UInt8)) (by first | rfl | omega | (simp only [List.length_cons, List.length_nil, List.length_drop, List.length_take, List.length_append] <;> omega)) rfl) rfl (by decide)) [0, 2, 15] [(0, .slice A 25 c), (2, pt p3 0), (15, .agg #[.int .u8 (x0.toNat : Int), .int .u8 (x1.toNat : Int), .int .u8 (x2.toNat : Int), .int .u8 (x3.toNat : Int), .int .u8 (x4.toNat : Int), .int .u8 (x5.toNat : Int), .int .u8 (x6.toNat : Int), .int .u8 (x7.toNat : Int), .int .u8 (x8.toNat : Int), .int .u8 (x9.toNat : Int), .int .u8 (x10.toNat : Int), .int .u8 (x11.toNat : Int), .int .u8 (x12.toNat : Int), .int .u8 (x13.toNat : Int), .int .u8 (x14.toNat : Int), .int .u8 (x15.toNat : Int), .int .u8 (x16.toNat : Int), .int .u8 (x17.toNat : Int), .int .u8 (x18.toNat : Int), .int .u8 (x19.toNat : Int)])] (by kernel_rfl) (by kernel_rfl) rfl ?_
  refine GL.run (j := 5) 1 [0, 2, 16] [(0, .slice A 25 c), (2, pt p3 0), (16, .agg #[.int .i64 1, .int .u8 (x0.toNat : Int), .int .u8 (x1.toNat : Int), .int .u8 (x2.toNat : Int), .int .u8 (x3.toNat : Int), .int .u8 (x4.toNat : Int), .int .u8 (x5.toNat : Int), .int .u8 (x6.toNat : Int), .int .u8 (x7.toNat : Int), .int .u8 (x8.toNat : Int), .int .u8 (x9.toNat : Int), .int .u8 (x10.toNat : Int), .int .u8 (x11.toNat : Int), .int .u8 (x12.toNat : Int), .int .u8 (x13.toNat : Int), .int .u8 (x14.toNat : Int), .int .u8 (x15.toNat : Int), .int .u8 (x16.toNat : Int), .int .u8 (x17.toNat : Int), .int .u8 (x18.toNat : Int), .int .u8 (x19.toNat : Int), .slice none 0 0])] (by kernel_rfl) rfl ?_
  obtain ⟨p13, w14, r15, H16⟩ := H6.alloc (P := Try.prog) 43 [.int .i64 0, .int .u8 0, .int .u8 0, .int .u8 0, .int .u8 0, .int .u8 0, .int .u8 0, .int .u8 0, .int .u8 0, .int .u8 0, .int .u8 0, .int .u8 0, .int .u8 0, .int .u8 0, .int .u8 0, .int .u8 0, .int .u8 0, .int .u8 0, .int .u8 0, .int .u8 0, .int .u8 0, .slice none 0 0] (by kernel_rfl)
  have H16 : Hp w [] [.blk p3 [.int .i64 0, .int .u8 0, .int .u8 0, .int .u8 0, .int .u8 0, .int .u8 0, .int .u8 0, .int .u8 0, .int .u8 0, .int .u8 0, .int .u8 0, .int .u8 0, .int .u8 0, .int .u8 0, .int .u8 0, .int .u8 0, .int .u8 0, .int .u8 0, .int .u8 0, .int .u8 0, .int .u8 0, .slice none 0 0] 43, .blk p13 [.int .i64 0, .int .u8 0, .int .u8 0, .int .u8 0, .int .u8 0, .int .u8 0, .int .u8 0, .int .u8 0, .int .u8 0, .int .u8 0, .int .u8 0, .int .u8 0, .int .u8 0, .int .u8 0, .int .u8 0, .int .u8 0, .int .u8 0, .int .u8 0, .int .u8 0, .int .u8 0, .int .u8 0, .slice none 0 0] 43] w14 := H16
  refine GL.sem (j := 6) (r15) [0, 2, 3, 16] [(0, .slice A 25 c), (2, pt p3 0), (3, pt p13 0), (16, .agg #[.int .i64 1, .int .u8 (x0.toNat : Int), .int .u8 (x1.toNat : Int), .int .u8 (x2.toNat : Int), .int .u8 (x3.toNat : Int), .int .u8 (x4.toNat : Int), .int .u8 (x5.toNat : Int), .int .u8 (x6.toNat : Int), .int .u8 (x7.toNat : Int), .int .u8 (x8.toNat : Int), .int .u8 (x9.toNat : Int), .int .u8 (x10.toNat : Int), .int .u8 (x11.toNat : Int), .int .u8 (x12.toNat : Int), .int .u8 (x13.toNat : Int), .int .u8 (x14.toNat : Int), .int .u8 (x15.toNat : Int), .int .u8 (x16.toNat : Int), .int .u8 (x17.toNat : Int), .int .u8 (x18.toNat : Int), .int .u8 (x19.toNat : Int), .slice none 0 0])] (by kernel_rfl) (by kernel_rfl) rfl ?_
  obtain ⟨w17, r18, H19⟩ := H16.stA (P := Try.prog) (o := 0) (vs := [.int .i64 1, .int .u8 (x0.toNat : Int), .int .u8 (x1.toNat : Int), .int .u8 (x2.toNat : Int), .int .u8 (x3.toNat : Int), .int .u8 (x4.toNat : Int), .int .u8 (x5.toNat : Int), .int .u8 (x6.toNat : Int), .int .u8 (x7.toNat : Int), .int .u8 (x8.toNat : Int), .int .u8 (x9.toNat : Int), .int .u8 (x10.toNat : Int), .int .u8 (x11.toNat : Int), .int .u8 (x12.toNat : Int), .int .u8 (x13.toNat : Int), .int .u8 (x14.toNat : Int), .int .u8 (x15.toNat : Int), .int .u8 (x16.toNat : Int), .int .u8 (x17.toNat : Int), .int .u8 (x18.toNat : Int), .int .u8 (x19.toNat : Int), .slice none 0 0]) (ty := 43) (m := 22) 1 rfl (by kernel_rfl) rfl (by simp) (by simp [Value.oneCell'])
  have H19 : Hp w [] [.blk p3 [.int .i64 0, .int .u8 0, .int .u8 0, .int .u8 0, .int .u8 0, .int .u8 0, .int .u8 0, .int .u8 0, .int .u8 0, .int .u8 0, .int .u8 0, .int .u8 0, .int .u8 0, .int .u8 0, .int .u8 0, .int .u8 0, .int .u8 0, .int .u8 0, .int .u8 0, .int .u8 0, .int .u8 0, .slice none 0 0] 43, .blk p13 [.int .i64 1, .int .u8 (x0.toNat : Int), .int .u8 (x1.toNat : Int), .int .u8 (x2.toNat : Int), .int .u8 (x3.toNat : Int), .int .u8 (x4.toNat : Int), .int .u8 (x5.toNat : Int), .int .u8 (x6.toNat : Int), .int .u8 (x7.toNat : Int), .int .u8 (x8.toNat : Int), .int .u8 (x9.toNat : Int), .int .u8 (x10.toNat : Int), .int .u8 (x11.toNat : Int), .int .u8 (x12.toNat : Int), .int .u8 (x13.toNat : Int), .int .u8 (x14.toNat : Int), .int .u8 (x15.toNat : Int), .int .u8 (x16.toNat : Int), .int .u8 (x17.toNat : Int), .int .u8 (x18.toNat : Int), .int .u8 (x19.toNat : Int), .slice none 0 0] 43] w17 := H19
  refine GL.semU (j := 7) r18 [0, 2, 3] [(0, .slice A 25 c), (2, pt p3 0), (3, pt p13 0)] (by kernel_rfl) rfl rfl rfl ?_
  refine GL.k rfl hK12 (fun _ _ h => h) ?_
  refine G.seqK fun K20 hK21 => ?_
  refine G.region ?_
  refine GL.sem (j := 1) (H19.ldA (o := 0) (ty := 43) (m := 22) (sub := [.int .i64 1, .int .u8 (x0.toNat : Int), .int .u8 (x1.toNat : Int), .int .u8 (x2.toNat : Int), .int .u8 (x3.toNat : Int), .int .u8 (x4.toNat : Int), .int .u8 (x5.toNat : Int), .int .u8 (x6.toNat : Int), .int .u8 (x7.toNat : Int), .int .u8 (x8.toNat : Int), .int .u8 (x9.toNat : Int), .int .u8 (x10.toNat : Int), .int .u8 (x11.toNat : Int), .int .u8 (x12.toNat : Int), .int .u8 (x13.toNat : Int), .int .u8 (x14.toNat : Int), .int .u8 (x15.toNat : Int), .int .u8 (x16.toNat : Int), .int .u8 (x17.toNat : Int), .int .u8 (x18.toNat : Int), .int .u8 (x19.toNat : Int), .slice none 0 0]) 1 rfl (by kernel_rfl) rfl rfl) [0, 2, 3, 18] [(0, .slice A 25 c), (2, pt p3 0), (3, pt p13 0), (18, .agg #[.int .i64 1, .int .u8 (x0.toNat : Int), .int .u8 (x1.toNat : Int), .int .u8 (x2.toNat : Int), .int .u8 (x3.toNat : Int), .int .u8 (x4.toNat : Int), .int .u8 (x5.toNat : Int), .int .u8 (x6.toNat : Int), .int .u8 (x7.toNat : Int), .int .u8 (x8.toNat : Int), .int .u8 (x9.toNat : Int), .int .u8 (x10.toNat : Int), .int .u8 (x11.toNat : Int), .int .u8 (x12.toNat : Int), .int .u8 (x13.toNat : Int), .int .u8 (x14.toNat : Int), .int .u8 (x15.toNat : Int), .int .u8 (x16.toNat : Int), .int .u8 (x17.toNat : Int), .int .u8 (x18.toNat : Int), .int .u8 (x19.toNat : Int), .slice none 0 0])] (by kernel_rfl) (by kernel_rfl) rfl ?_
  refine GL.call (j := 2) (Bytes_addr x0 x1 x2 x3 x4 x5 x6 x7 x8 x9 x10 x11 x12 x13 x14 x15 x16 x17 x18 x19 none 0 0 w17) (by kernel_rfl) rfl (fun e_ w26 hR => ?_)
  obtain ⟨A22, c23, rfl, H25⟩ := hR
  have H24 : Hp w [] [.blk p3 [.int .i64 0, .int .u8 0, .int .u8 0, .int .u8 0, .int .u8 0, .int .u8 0, .int .u8 0, .int .u8 0, .int .u8 0, .int .u8 0, .int .u8 0, .int .u8 0, .int .u8 0, .int .u8 0, .int .u8 0, .int .u8 0, .int .u8 0, .int .u8 0, .int .u8 0, .int .u8 0, .int .u8 0, .slice none 0 0] 43, .blk p13 [.int .i64 1, .int .u8 (x0.toNat : Int), .int .u8 (x1.toNat : Int), .int .u8 (x2.toNat : Int), .int .u8 (x3.toNat : Int), .int .u8 (x4.toNat : Int), .int .u8 (x5.toNat : Int), .int .u8 (x6.toNat : Int), .int .u8 (x7.toNat : Int), .int .u8 (x8.toNat : Int), .int .u8 (x9.toNat : Int), .int .u8 (x10.toNat : Int), .int .u8 (x11.toNat : Int), .int .u8 (x12.toNat : Int), .int .u8 (x13.toNat : Int), .int .u8 (x14.toNat : Int), .int .u8 (x15.toNat : Int), .int .u8 (x16.toNat : Int), .int .u8 (x17.toNat : Int), .int .u8 (x18.toNat : Int), .int .u8 (x19.toNat : Int), .slice none 0 0] 43, .row A22 (([118, 169, 20, x0, x1, x2, x3, x4, x5, x6, x7, x8, x9, x10, x11, x12, x13, x14, x15, x16, x17, x18, x19, 136, 172] : List UInt8).length) c23 5 1 (by8 ([118, 169, 20, x0, x1, x2, x3, x4, x5, x6, x7, x8, x9, x10, x11, x12, x13, x14, x15, x16, x17, x18, x19, 136, 172] : List UInt8))] w26 := H19.callNew H25
  refine ⟨_, rfl, [0, 2, 3, 19], [(0, .slice A 25 c), (2, pt p3 0), (3, pt p13 0), (19, .tuple #[.slice A22 (([118, 169, 20, x0, x1, x2, x3, x4, x5, x6, x7, x8, x9, x10, x11, x12, x13, x14, x15, x16, x17, x18, x19, 136, 172] : List UInt8).length) c23, .int .i64 0])], by kernel_rfl, ?_⟩
  refine GL.run (j := 7) 5 [0, 2, 3, 4, 5] [(0, .slice A 25 c), (2, pt p3 0), (3, pt p13 0), (4, .slice A22 (([118, 169, 20, x0, x1, x2, x3, x4, x5, x6, x7, x8, x9, x10, x11, x12, x13, x14, x15, x16, x17, x18, x19, 136, 172] : List UInt8).length) c23), (5, .int .i64 0)] (by kernel_rfl) rfl ?_
  refine GL.k rfl hK21 (fun _ _ h => h) ?_
  refine G.seqK fun K27 hK28 => ?_
  refine G.region ?_
  refine GL.run (j := 5) 5 [0, 2, 3, 24, 25, 26] [(0, .slice A 25 c), (2, pt p3 0), (3, pt p13 0), (24, .bool true), (25, .slice A22 (([118, 169, 20, x0, x1, x2, x3, x4, x5, x6, x7, x8, x9, x10, x11, x12, x13, x14, x15, x16, x17, x18, x19, 136, 172] : List UInt8).length) c23), (26, .slice A 25 c)] (by kernel_rfl) rfl ?_
  refine GL.call (j := 6) (Equal_calls ([118, 169, 20, x0, x1, x2, x3, x4, x5, x6, x7, x8, x9, x10, x11, x12, x13, x14, x15, x16, x17, x18, x19, 136, 172] : List UInt8) ([118, 169, 20, x0, x1, x2, x3, x4, x5, x6, x7, x8, x9, x10, x11, x12, x13, x14, x15, x16, x17, x18, x19, 136, 172] : List UInt8) A22 A c23 c w26 (H24.rdRow 2 rfl) (hr.hp H24)) (by kernel_rfl) rfl (fun e_ w29 hR => ?_)
  obtain ⟨rfl, H31⟩ := hR
  have H30 : Hp w [] [.blk p3 [.int .i64 0, .int .u8 0, .int .u8 0, .int .u8 0, .int .u8 0, .int .u8 0, .int .u8 0, .int .u8 0, .int .u8 0, .int .u8 0, .int .u8 0, .int .u8 0, .int .u8 0, .int .u8 0, .int .u8 0, .int .u8 0, .int .u8 0, .int .u8 0, .int .u8 0, .int .u8 0, .int .u8 0, .slice none 0 0] 43, .blk p13 [.int .i64 1, .int .u8 (x0.toNat : Int), .int .u8 (x1.toNat : Int), .int .u8 (x2.toNat : Int), .int .u8 (x3.toNat : Int), .int .u8 (x4.toNat : Int), .int .u8 (x5.toNat : Int), .int .u8 (x6.toNat : Int), .int .u8 (x7.toNat : Int), .int .u8 (x8.toNat : Int), .int .u8 (x9.toNat : Int), .int .u8 (x10.toNat : Int), .int .u8 (x11.toNat : Int), .int .u8 (x12.toNat : Int), .int .u8 (x13.toNat : Int), .int .u8 (x14.toNat : Int), .int .u8 (x15.toNat : Int), .int .u8 (x16.toNat : Int), .int .u8 (x17.toNat : Int), .int .u8 (x18.toNat : Int), .int .u8 (x19.toNat : Int), .slice none 0 0] 43, .row A22 (([118, 169, 20, x0, x1, x2, x3, x4, x5, x6, x7, x8, x9, x10, x11, x12, x13, x14, x15, x16, x17, x18, x19, 136, 172] : List UInt8).length) c23 5 1 (by8 ([118, 169, 20, x0, x1, x2, x3, x4, x5, x6, x7, x8, x9, x10, x11, x12, x13, x14, x15, x16, x17, x18, x19, 136, 172] : List UInt8))] w29 := H24.callNil H31
  refine ⟨_, rfl, [0, 2, 3, 24, 27], [(0, .slice A 25 c), (2, pt p3 0), (3, pt p13 0), (24, .bool true), (27, .bool (([118, 169, 20, x0, x1, x2, x3, x4, x5, x6, x7, x8, x9, x10, x11, x12, x13, x14, x15, x16, x17, x18, x19, 136, 172] : List UInt8) == ([118, 169, 20, x0, x1, x2, x3, x4, x5, x6, x7, x8, x9, x10, x11, x12, x13, x14, x15, x16, x17, x18, x19, 136, 172] : List UInt8)))], by kernel_rfl, ?_⟩
  refine GL.run (j := 7) 1 [0, 2, 3, 28] [(0, .slice A 25 c), (2, pt p3 0), (3, pt p13 0), (28, .bool (([118, 169, 20, x0, x1, x2, x3, x4, x5, x6, x7, x8, x9, x10, x11, x12, x13, x14, x15, x16, x17, x18, x19, 136, 172] : List UInt8) == ([118, 169, 20, x0, x1, x2, x3, x4, x5, x6, x7, x8, x9, x10, x11, x12, x13, x14, x15, x16, x17, x18, x19, 136, 172] : List UInt8)))] (by kernel_rfl) rfl ?_
  refine GL.k rfl hK28 (fun _ _ h => h) ?_
  have hb32 : (([118, 169, 20, x0, x1, x2, x3, x4, x5, x6, x7, x8, x9, x10, x11, x12, x13, x14, x15, x16, x17, x18, x19, 136, 172] : List UInt8) == ([118, 169, 20, x0, x1, x2, x3, x4, x5, x6, x7, x8, x9, x10, x11, x12, x13, x14, x15, x16, x17, x18, x19, 136, 172] : List UInt8)) = true := beq_self_eq_true _
  rw [hb32]
  refine G.yes rfl ?_
  refine G.seqK fun K33 hK34 => ?_
  refine G.region ?_
  refine GL.sem (j := 1) (H30.ldA (o := 0) (ty := 43) (m := 22) (sub := [.int .i64 1, .int .u8 (x0.toNat : Int), .int .u8 (x1.toNat : Int), .int .u8 (x2.toNat : Int), .int .u8 (x3.toNat : Int), .int .u8 (x4.toNat : Int), .int .u8 (x5.toNat : Int), .int .u8 (x6.toNat : Int), .int .u8 (x7.toNat : Int), .int .u8 (x8.toNat : Int), .int .u8 (x9.toNat : Int), .int .u8 (x10.toNat : Int), .int .u8 (x11.toNat : Int), .int .u8 (x12.toNat : Int), .int .u8 (x13.toNat : Int), .int .u8 (x14.toNat : Int), .int .u8 (x15.toNat : Int), .int .u8 (x16.toNat : Int), .int .u8 (x17.toNat : Int), .int .u8 (x18.toNat : Int), .int .u8 (x19.toNat : Int), .slice none 0 0]) 1 rfl (by kernel_rfl) rfl rfl) [2, 29] [(2, pt p3 0), (29, .agg #[.int .i64 1, .int .u8 (x0.toNat : Int), .int .u8 (x1.toNat : Int), .int .u8 (x2.toNat : Int), .int .u8 (x3.toNat : Int), .int .u8 (x4.toNat : Int), .int .u8 (x5.toNat : Int), .int .u8 (x6.toNat : Int), .int .u8 (x7.toNat : Int), .int .u8 (x8.toNat : Int), .int .u8 (x9.toNat : Int), .int .u8 (x10.toNat : Int), .int .u8 (x11.toNat : Int), .int .u8 (x12.toNat : Int), .int .u8 (x13.toNat : Int), .int .u8 (x14.toNat : Int), .int .u8 (x15.toNat : Int), .int .u8 (x16.toNat : Int), .int .u8 (x17.toNat : Int), .int .u8 (x18.toNat : Int), .int .u8 (x19.toNat : Int), .slice none 0 0])] (by kernel_rfl) (by kernel_rfl) rfl ?_
  obtain ⟨w35, r36, H37⟩ := H30.stA (P := Try.prog) (o := 0) (vs := [.int .i64 1, .int .u8 (x0.toNat : Int), .int .u8 (x1.toNat : Int), .int .u8 (x2.toNat : Int), .int .u8 (x3.toNat : Int), .int .u8 (x4.toNat : Int), .int .u8 (x5.toNat : Int), .int .u8 (x6.toNat : Int), .int .u8 (x7.toNat : Int), .int .u8 (x8.toNat : Int), .int .u8 (x9.toNat : Int), .int .u8 (x10.toNat : Int), .int .u8 (x11.toNat : Int), .int .u8 (x12.toNat : Int), .int .u8 (x13.toNat : Int), .int .u8 (x14.toNat : Int), .int .u8 (x15.toNat : Int), .int .u8 (x16.toNat : Int), .int .u8 (x17.toNat : Int), .int .u8 (x18.toNat : Int), .int .u8 (x19.toNat : Int), .slice none 0 0]) (ty := 43) (m := 22) 0 rfl (by kernel_rfl) rfl (by simp) (by simp [Value.oneCell'])
  have H37 : Hp w [] [.blk p3 [.int .i64 1, .int .u8 (x0.toNat : Int), .int .u8 (x1.toNat : Int), .int .u8 (x2.toNat : Int), .int .u8 (x3.toNat : Int), .int .u8 (x4.toNat : Int), .int .u8 (x5.toNat : Int), .int .u8 (x6.toNat : Int), .int .u8 (x7.toNat : Int), .int .u8 (x8.toNat : Int), .int .u8 (x9.toNat : Int), .int .u8 (x10.toNat : Int), .int .u8 (x11.toNat : Int), .int .u8 (x12.toNat : Int), .int .u8 (x13.toNat : Int), .int .u8 (x14.toNat : Int), .int .u8 (x15.toNat : Int), .int .u8 (x16.toNat : Int), .int .u8 (x17.toNat : Int), .int .u8 (x18.toNat : Int), .int .u8 (x19.toNat : Int), .slice none 0 0] 43, .blk p13 [.int .i64 1, .int .u8 (x0.toNat : Int), .int .u8 (x1.toNat : Int), .int .u8 (x2.toNat : Int), .int .u8 (x3.toNat : Int), .int .u8 (x4.toNat : Int), .int .u8 (x5.toNat : Int), .int .u8 (x6.toNat : Int), .int .u8 (x7.toNat : Int), .int .u8 (x8.toNat : Int), .int .u8 (x9.toNat : Int), .int .u8 (x10.toNat : Int), .int .u8 (x11.toNat : Int), .int .u8 (x12.toNat : Int), .int .u8 (x13.toNat : Int), .int .u8 (x14.toNat : Int), .int .u8 (x15.toNat : Int), .int .u8 (x16.toNat : Int), .int .u8 (x17.toNat : Int), .int .u8 (x18.toNat : Int), .int .u8 (x19.toNat : Int), .slice none 0 0] 43, .row A22 (([118, 169, 20, x0, x1, x2, x3, x4, x5, x6, x7, x8, x9, x10, x11, x12, x13, x14, x15, x16, x17, x18, x19, 136, 172] : List UInt8).length) c23 5 1 (by8 ([118, 169, 20, x0, x1, x2, x3, x4, x5, x6, x7, x8, x9, x10, x11, x12, x13, x14, x15, x16, x17, x18, x19, 136, 172] : List UInt8))] w35 := H37
  refine GL.semU (j := 2) r36 [2] [(2, pt p3 0)] (by kernel_rfl) rfl rfl rfl ?_
  refine GL.k rfl hK34 (fun _ _ h => h) ?_
  refine G.ret ?_
  intro F_ hF_ hM_
  refine hRet _ _ (bodyPost_1 rfl (RV.cell rfl (H37.ldA (o := 0) (ty := 43) (m := 22) (sub := [.int .i64 1, .int .u8 (x0.toNat : Int), .int .u8 (x1.toNat : Int), .int .u8 (x2.toNat : Int), .int .u8 (x3.toNat : Int), .int .u8 (x4.toNat : Int), .int .u8 (x5.toNat : Int), .int .u8 (x6.toNat : Int), .int .u8 (x7.toNat : Int), .int .u8 (x8.toNat : Int), .int .u8 (x9.toNat : Int), .int .u8 (x10.toNat : Int), .int .u8 (x11.toNat : Int), .int .u8 (x12.toNat : Int), .int .u8 (x13.toNat : Int), .int .u8 (x14.toNat : Int), .int .u8 (x15.toNat : Int), .int .u8 (x16.toNat : Int), .int .u8 (x17.toNat : Int), .int .u8 (x18.toNat : Int), .int .u8 (x19.toNat : Int), .slice none 0 0]) 0 rfl (by kernel_rfl) rfl rfl)) ?_ F_ hF_ hM_)
  exact ⟨rfl, H37.sub (List.nil_sublist _)⟩
theorem isNone_drop {w : World} {A : Option Addr} {bs : List UInt8} {c l : Nat} (hr : RdS w A (by8 bs)) (hl : l < bs.length) (hc : l < c) : (if c = l then A else A.map fun x => Addr.add x l).isNone = false := by
  obtain ⟨a, rfl, _⟩ := hr.cell (j := l) (List.getElem?_eq_getElem (by rw [by8_length]; exact hl))
  rw [if_neg (by omega)]
  rfl
theorem Parse_tagN (t : List UInt8) (A : Option Addr) (c : Nat) (w : World) (hr : RdS w A (by8 (106 :: UInt8.ofNat t.length :: t))) (h1 : 1 ≤ t.length) (h40 : t.length ≤ 40) (h23 : t.length ≠ 23) (hc : t.length + 2 ≤ c) : Calls Try.prog 11 #[.slice A ((106 :: UInt8.ofNat t.length :: t).length) c] w fun e w' => ∃ A c, e = .returned (.agg #[.int .i64 2, .int .u8 0, .int .u8 0, .int .u8 0, .int .u8 0, .int .u8 0, .int .u8 0, .int .u8 0, .int .u8 0, .int .u8 0, .int .u8 0, .int .u8 0, .int .u8 0, .int .u8 0, .int .u8 0, .int .u8 0, .int .u8 0, .int .u8 0, .int .u8 0, .int .u8 0, .int .u8 0, .slice A t.length c]) ∧ Hp w [] [.row A t.length c 5 1 (by8 t)] w' := by
  refine calls_G (args := [.slice A ((106 :: UInt8.ofNat t.length :: t).length) c]) Try.func11 rfl Try.ntmps11 rfl ?_
  intro Q0 hRet hNor hPan
  have H := Hp.start w
  have H : Hp w [] [] w := H
  refine G.seqK fun K1 hK2 => ?_
  refine G.region ?_
  obtain ⟨p3, w4, r5, H6⟩ := H.alloc (P := Try.prog) 43 [.int .i64 0, .int .u8 0, .int .u8 0, .int .u8 0, .int .u8 0, .int .u8 0, .int .u8 0, .int .u8 0, .int .u8 0, .int .u8 0, .int .u8 0, .int .u8 0, .int .u8 0, .int .u8 0, .int .u8 0, .int .u8 0, .int .u8 0, .int .u8 0, .int .u8 0, .int .u8 0, .int .u8 0, .slice none 0 0] (by kernel_rfl)
  have H6 : Hp w [] [.blk p3 [.int .i64 0, .int .u8 0, .int .u8 0, .int .u8 0, .int .u8 0, .int .u8 0, .int .u8 0, .int .u8 0, .int .u8 0, .int .u8 0, .int .u8 0, .int .u8 0, .int .u8 0, .int .u8 0, .int .u8 0, .int .u8 0, .int .u8 0, .int .u8 0, .int .u8 0, .int .u8 0, .int .u8 0, .slice none 0 0] 43] w4 := H6
  refine GL.sem (j := 1) (r5) [0, 2] [(0, .slice A ((106 :: UInt8.ofNat t.length :: t).length) c), (2, pt p3 0)] (by kernel_rfl) (by kernel_rfl) rfl ?_
  refine GL.k rfl hK2 (fun _ _ h => h) ?_
  refine G.seqK fun K7 hK8 => ?_
  refine G.seqK fun K9 hK10 => ?_
  refine G.region ?_
  refine GL.run (j := 3) 3 [0, 2, 11] [(0, .slice A ((106 :: UInt8.ofNat t.length :: t).length) c), (2, pt p3 0), (11, .bool ((((106 :: UInt8.ofNat t.length :: t).length : Nat) : Int) == 25))] (by kernel_rfl) rfl ?_
  refine GL.k rfl hK10 (fun _ _ h => h) ?_
  have hb11 : ((((106 :: UInt8.ofNat t.length :: t).length : Nat) : Int) == 25) = false := beq_eq_false_iff_ne.2 (by simp; omega)
  rw [hb11]
  refine G.no rfl ?_
  refine G.skipK hK8 (fun _ _ h => h) ?_
  refine G.seqK fun K12 hK13 => ?_
  refine G.seqK fun K14 hK15 => ?_
  refine G.region ?_
  refine GL.run (j := 3) 3 [0, 2, 32] [(0, .slice A ((106 :: UInt8.ofNat t.length :: t).length) c), (2, pt p3 0), (32, .bool (decide (2 < (((106 :: UInt8.ofNat t.length :: t).length : Nat) : Int))))] (by kernel_rfl) rfl ?_
  refine GL.k rfl hK15 (fun _ _ h => h) ?_
  have hb16 : (decide (2 < (((106 :: UInt8.ofNat t.length :: t).length : Nat) : Int))) = true := decide_eq_true (by simp; omega)
  rw [hb16]
  refine G.yes rfl ?_
  refine G.seqK fun K17 hK18 => ?_
  refine G.region ?_
  refine GL.run (j := 1) 1 [0, 2, 33] [(0, .slice A ((106 :: UInt8.ofNat t.length :: t).length) c), (2, pt p3 0), (33, .slice A ((106 :: UInt8.ofNat t.length :: t).length) c)] (by kernel_rfl) rfl ?_
  refine GL.sem (j := 2) (run_sliceSl (P := Try.prog) (lo := some (.int .i64 2)) (hi := none) (t := 38) (len := (106 :: UInt8.ofNat t.length :: t).length) (cap := c) (A := A) (l := 2) (h := (106 :: UInt8.ofNat t.length :: t).length) (by kernel_rfl) (Or.inr ⟨_, _, rfl, rfl⟩) (Or.inl ⟨rfl, rfl⟩) (by first | rfl | omega | (simp only [List.length_cons, List.length_nil, List.length_drop, List.length_take, List.length_append] <;> omega)) (by first | rfl | omega | (simp only [List.length_cons, List.length_nil, List.length_drop, List.length_take, List.length_append] <;> omega))) [0, 2, 34] [(0, .slice A ((106 :: UInt8.ofNat t.length :: t).length) c), (2, pt p3 0), (34, .slice (if c = 2 then A else Option.map (fun x => Addr.add x 2) A) t.length (c - 2))] (by kernel_rfl) (by kernel_rfl) rfl ?_
  refine GL.call (j := 3) (SClone_calls t (if c = 2 then A else Option.map (fun x => Addr.add x 2) A) (c - 2) w4 (RdS.drop8 (cap := c) (hr.hp H6) 2 (cs := t) (by first | rfl | omega | (simp only [List.length_cons, List.length_nil, List.length_drop, List.length_take, List.length_append] <;> omega)) rfl) (isNone_drop hr (by first | rfl | omega | (simp only [List.length_cons, List.length_nil, List.length_drop, List.length_take, List.length_append] <;> omega)) (by first | rfl | omega | (simp only [List.length_cons, List.length_nil, List.length_drop, List.length_take, List.length_append] <;> omega))) (by first | rfl | omega | (simp only [List.length_cons, List.length_nil, List.length_drop, List.length_take, List.length_append] <;> omega))) (by kernel_rfl) rfl (fun e_ w23 hR => ?_)
  obtain ⟨A19, c20, rfl, H22⟩ := hR
  have H21 : Hp w [] [.blk p3 [.int .i64 0, .int .u8 0, .int .u8 0, .int .u8 0, .int .u8 0, .int .u8 0, .int .u8 0, .int .u8 0, .int .u8 0, .int .u8 0, .int .u8 0, .int .u8 0, .int .u8 0, .int .u8 0, .int .u8 0, .int .u8 0, .int .u8 0, .int .u8 0, .int .u8 0, .int .u8 0, .int .u8 0, .slice none 0 0] 43, .row A19 t.length c20 5 1 (by8 t)] w23 := H6.callNew H22
  refine ⟨_, rfl, [0, 2, 35], [(0, .slice A ((106 :: UInt8.ofNat t.length :: t).length) c), (2, pt p3 0), (35, .slice A19 t.length c20)], by kernel_rfl, ?_⟩
  refine GL.run (j := 4) 1 [0, 2, 36] [(0, .slice A ((106 :: UInt8.ofNat t.length :: t).length) c), (2, pt p3 0), (36, .agg #[.int .i64 2, .int .u8 0, .int .u8 0, .int .u8 0, .int .u8 0, .int .u8 0, .int .u8 0, .int .u8 0, .int .u8 0, .int .u8 0, .int .u8 0, .int .u8 0, .int .u8 0, .int .u8 0, .int .u8 0, .int .u8 0, .int .u8 0, .int .u8 0, .int .u8 0, .int .u8 0, .int .u8 0, .slice A19 t.length c20])] (by kernel_rfl) rfl ?_
  obtain ⟨p24, w25, r26, H27⟩ := H21.alloc (P := Try.prog) 43 [.int .i64 0, .int .u8 0, .int .u8 0, .int .u8 0, .int .u8 0, .int .u8 0, .int .u8 0, .int .u8 0, .int .u8 0, .int .u8 0, .int .u8 0, .int .u8 0, .int .u8 0, .int .u8 0, .int .u8 0, .int .u8 0, .int .u8 0, .int .u8 0, .int .u8 0, .int .u8 0, .int .u8 0, .slice none 0 0] (by kernel_rfl)
  have H27 : Hp w [] [.blk p3 [.int .i64 0, .int .u8 0, .int .u8 0, .int .u8 0, .int .u8 0, .int .u8 0, .int .u8 0, .int .u8 0, .int .u8 0, .int .u8 0, .int .u8 0, .int .u8 0, .int .u8 0, .int .u8 0, .int .u8 0, .int .u8 0, .int .u8 0, .int .u8 0, .int .u8 0, .int .u8 0, .int .u8 0, .slice none 0 0] 43, .row A19 t.length c20 5 1 (by8 t), .blk p24 [.int .i64 0, .int .u8 0, .int .u8 0, .int .u8 0, .int .u8 0, .int .u8 0, .int .u8 0, .int .u8 0, .int .u8 0, .int .u8 0, .int .u8 0, .int .u8 0, .int .u8 0, .int .u8 0, .int .u8 0, .int .u8 0, .int .u8 0, .int .u8 0, .int .u8 0, .int .u8 0, .int .u8 0, .slice none 0 0] 43] w25 := H27
  refine GL.sem (j := 5) (r26) [0, 2, 6, 36] [(0, .slice A ((106 :: UInt8.ofNat t.length :: t).length) c), (2, pt p3 0), (6, pt p24 0), (36, .agg #[.int .i64 2, .int .u8 0, .int .u8 0, .int .u8 0, .int .u8 0, .int .u8 0, .int .u8 0, .int .u8 0, .int .u8 0, .int .u8 0, .int .u8 0, .int .u8 0, .int .u8 0, .int .u8 0, .int .u8 0, .int .u8 0, .int .u8 0, .int .u8 0, .int .u8 0, .int .u8 0, .int .u8 0, .slice A19 t.length c20])] (by kernel_rfl) (by kernel_rfl) rfl ?_
  obtain ⟨w28, r29, H30⟩ := H27.stA (P := Try.prog) (o := 0) (vs := [.int .i64 2, .int .u8 0, .int .u8 0, .int .u8 0, .int .u8 0, .int .u8 0, .int .u8 0, .int .u8 0, .int .u8 0, .int .u8 0, .int .u8 0, .int .u8 0, .int .u8 0, .int .u8 0, .int .u8 0, .int .u8 0, .int .u8 0, .int .u8 0, .int .u8 0, .int .u8 0, .int .u8 0, .slice A19 t.length c20]) (ty := 43) (m := 22) 2 rfl (by kernel_rfl) rfl (by simp) (by simp [Value.oneCell'])
  have H30 : Hp w [] [.blk p3 [.int .i64 0, .int .u8 0, .int .u8 0, .int .u8 0, .int .u8 0, .int .u8 0, .int .u8 0, .int .u8 0, .int .u8 0, .int .u8 0, .int .u8 0, .int .u8 0, .int .u8 0, .int .u8 0, .int .u8 0, .int .u8 0, .int .u8 0, .int .u8 0, .int .u8 0, .int .u8 0, .int .u8 0, .slice none 0 0] 43, .row A19 t.length c20 5 1 (by8 t), .blk p24 [.int .i64 2, .int .u8 0, .int .u8 0, .int .u8 0, .int .u8 0, .int .u8 0, .int .u8 0, .int .u8 0, .int .u8 0, .int .u8 0, .int .u8 0, .int .u8 0, .int .u8 0, .int .u8 0, .int .u8 0, .int .u8 0, .int .u8 0, .int .u8 0, .int .u8 0, .int .u8 0, .int .u8 0, .slice A19 t.length c20] 43] w28 := H30
  refine GL.semU (j := 6) r29 [0, 2, 6] [(0, .slice A ((106 :: UInt8.ofNat t.length :: t).length) c), (2, pt p3 0), (6, pt p24 0)] (by kernel_rfl) rfl rfl rfl ?_
  refine GL.k rfl hK18 (fun _ _ h => h) ?_
  refine G.seqK fun K31 hK32 => ?_
  refine G.region ?_
  refine GL.sem (j := 1) (H30.ldA (o := 0) (ty := 43) (m := 22) (sub := [.int .i64 2, .int .u8 0, .int .u8 0, .int .u8 0, .int .u8 0, .int .u8 0, .int .u8 0, .int .u8 0, .int .u8 0, .int .u8 0, .int .u8 0, .int .u8 0, .int .u8 0, .int .u8 0, .int .u8 0, .int .u8 0, .int .u8 0, .int .u8 0, .int .u8 0, .int .u8 0, .int .u8 0, .slice A19 t.length c20]) 2 rfl (by kernel_rfl) rfl rfl) [0, 2, 6, 38] [(0, .slice A ((106 :: UInt8.ofNat t.length :: t).length) c), (2, pt p3 0), (6, pt p24 0), (38, .agg #[.int .i64 2, .int .u8 0, .int .u8 0, .int .u8 0, .int .u8 0, .int .u8 0, .int .u8 0, .int .u8 0, .int .u8 0, .int .u8 0, .int .u8 0, .int .u8 0, .int .u8 0, .int .u8 0, .int .u8 0, .int .u8 0, .int .u8 0, .int .u8 0, .int .u8 0, .int .u8 0, .int .u8 0, .slice A19 t.length c20])] (by kernel_rfl) (by kernel_rfl) rfl ?_
  refine GL.call (j := 2) (Bytes_tag (0 : UInt8) (0 : UInt8) (0 : UInt8) (0 : UInt8) (0 : UInt8) (0 : UInt8) (0 : UInt8) (0 : UInt8) (0 : UInt8) (0 : UInt8) (0 : UInt8) (0 : UInt8) (0 : UInt8) (0 : UInt8) (0 : UInt8) (0 : UInt8) (0 : UInt8) (0 : UInt8) (0 : UInt8) (0 : UInt8) t A19 c20 w28 (H30.rdRow 1 rfl) (by omega) (by omega)) (by kernel_rfl) rfl (fun e_ w37 hR => ?_)
  obtain ⟨A33, c34, rfl, H36⟩ := hR
  have H35 : Hp w [] [.blk p3 [.int .i64 0, .int .u8 0, .int .u8 0, .int .u8 0, .int .u8 0, .int .u8 0, .int .u8 0, .int .u8 0, .int .u8 0, .int .u8 0, .int .u8 0, .int .u8 0, .int .u8 0, .int .u8 0, .int .u8 0, .int .u8 0, .int .u8 0, .int .u8 0, .int .u8 0, .int .u8 0, .int .u8 0, .slice none 0 0] 43, .row A19 t.length c20 5 1 (by8 t), .blk p24 [.int .i64 2, .int .u8 0, .int .u8 0, .int .u8 0, .int .u8 0, .int .u8 0, .int .u8 0, .int .u8 0, .int .u8 0, .int .u8 0, .int .u8 0, .int .u8 0, .int .u8 0, .int .u8 0, .int .u8 0, .int .u8 0, .int .u8 0, .int .u8 0, .int .u8 0, .int .u8 0, .int .u8 0, .slice A19 t.length c20] 43, .row A33 ((106 :: UInt8.ofNat t.length :: t).length) c34 5 1 (by8 (106 :: UInt8.ofNat t.length :: t))] w37 := H30.callNew H36
  refine ⟨_, rfl, [0, 2, 6, 39], [(0, .slice A ((106 :: UInt8.ofNat t.length :: t).length) c), (2, pt p3 0), (6, pt p24 0), (39, .tuple #[.slice A33 ((106 :: UInt8.ofNat t.length :: t).length) c34, .int .i64 0])], by kernel_rfl, ?_⟩
  refine GL.run (j := 7) 5 [0, 2, 6, 7, 8] [(0, .slice A ((106 :: UInt8.ofNat t.length :: t).length) c), (2, pt p3 0), (6, pt p24 0), (7, .slice A33 ((106 :: UInt8.ofNat t.length :: t).length) c34), (8, .int .i64 0)] (by kernel_rfl) rfl ?_
  refine GL.k rfl hK32 (fun _ _ h => h) ?_
  refine G.seqK fun K38 hK39 => ?_
  refine G.region ?_
  refine GL.run (j := 5) 5 [2, 6, 44, 45, 46] [(2, pt p3 0), (6, pt p24 0), (44, .bool true), (45, .slice A33 ((106 :: UInt8.ofNat t.length :: t).length) c34), (46, .slice A ((106 :: UInt8.ofNat t.length :: t).length) c)] (by kernel_rfl) rfl ?_
  refine GL.call (j := 6) (Equal_calls (106 :: UInt8.ofNat t.length :: t) (106 :: UInt8.ofNat t.length :: t) A33 A c34 c w37 (H35.rdRow 3 rfl) (hr.hp H35)) (by kernel_rfl) rfl (fun e_ w40 hR => ?_)
  obtain ⟨rfl, H42⟩ := hR
  have H41 : Hp w [] [.blk p3 [.int .i64 0, .int .u8 0, .int .u8 0, .int .u8 0, .int .u8 0, .int .u8 0, .int .u8 0, .int .u8 0, .int .u8 0, .int .u8 0, .int .u8 0, .int .u8 0, .int .u8 0, .int .u8 0, .int .u8 0, .int .u8 0, .int .u8 0, .int .u8 0, .int .u8 0, .int .u8 0, .int .u8 0, .slice none 0 0] 43, .row A19 t.length c20 5 1 (by8 t), .blk p24 [.int .i64 2, .int .u8 0, .int .u8 0, .int .u8 0, .int .u8 0, .int .u8 0, .int .u8 0, .int .u8 0, .int .u8 0, .int .u8 0, .int .u8 0, .int .u8 0, .int .u8 0, .int .u8 0, .int .u8 0, .int .u8 0, .int .u8 0, .int .u8 0, .int .u8 0, .int .u8 0, .int .u8 0, .slice A19 t.length c20] 43, .row A33 ((106 :: UInt8.ofNat t.length :: t).length) c34 5 1 (by8 (106 :: UInt8.ofNat t.length :: t))] w40 := H35.callNil H42
  refine ⟨_, rfl, [2, 6, 44, 47], [(2, pt p3 0), (6, pt p24 0), (44, .bool true), (47, .bool ((106 :: UInt8.ofNat t.length :: t) == (106 :: UInt8.ofNat t.length :: t)))], by kernel_rfl, ?_⟩
  refine GL.run (j := 7) 1 [2, 6, 48] [(2, pt p3 0), (6, pt p24 0), (48, .bool ((106 :: UInt8.ofNat t.length :: t) == (106 :: UInt8.ofNat t.length :: t)))] (by kernel_rfl) rfl ?_
  refine GL.k rfl hK39 (fun _ _ h => h) ?_
  have hb43 : ((106 :: UInt8.ofNat t.length :: t) == (106 :: UInt8.ofNat t.length :: t)) = true := beq_self_eq_true _
  rw [hb43]
  refine G.yes rfl ?_
  refine G.seqK fun K44 hK45 => ?_
  refine G.region ?_
  refine GL.sem (j := 1) (H41.ldA (o := 0) (ty := 43) (m := 22) (sub := [.int .i64 2, .int .u8 0, .int .u8 0, .int .u8 0, .int .u8 0, .int .u8 0, .int .u8 0, .int .u8 0, .int .u8 0, .int .u8 0, .int .u8 0, .int .u8 0, .int .u8 0, .int .u8 0, .int .u8 0, .int .u8 0, .int .u8 0, .int .u8 0, .int .u8 0, .int .u8 0, .int .u8 0, .slice A19 t.length c20]) 2 rfl (by kernel_rfl) rfl rfl) [2, 49] [(2, pt p3 0), (49, .agg #[.int .i64 2, .int .u8 0, .int .u8 0, .int .u8 0, .int .u8 0, .int .u8 0, .int .u8 0, .int .u8 0, .int .u8 0, .int .u8 0, .int .u8 0, .int .u8 0, .int .u8 0, .int .u8 0, .int .u8 0, .int .u8 0, .int .u8 0, .int .u8 0, .int .u8 0, .int .u8 0, .int .u8 0, .slice A19 t.length c20])] (by kernel_rfl) (by kernel_rfl) rfl ?_
  obtain ⟨w46, r47, H48⟩ := H41.stA (P := Try.prog) (o := 0) (vs := [.int .i64 2, .int .u8 0, .int .u8 0, .int .u8 0, .int .u8 0, .int .u8 0, .int .u8 0, .int .u8 0, .int .u8 0, .int .u8 0, .int .u8 0, .int .u8 0, .int .u8 0, .int .u8 0, .int .u8 0, .int .u8 0, .int .u8 0, .int .u8 0, .int .u8 0, .int .u8 0, .int .u8 0, .slice A19 t.length c20]) (ty := 43) (m := 22) 0 rfl (by kernel_rfl) rfl (by simp) (by simp [Value.oneCell'])
  have H48 : Hp w [] [.blk p3 [.int .i64 2, .int .u8 0, .int .u8 0, .int .u8 0, .int .u8 0, .int .u8 0, .int .u8 0, .int .u8 0, .int .u8 0, .int .u8 0, .int .u8 0, .int .u8 0, .int .u8 0, .int .u8 0, .int .u8 0, .int .u8 0, .int .u8 0, .int .u8 0, .int .u8 0, .int .u8 0, .int .u8 0, .slice A19 t.length c20] 43, .row A19 t.length c20 5 1 (by8 t), .blk p24 [.int .i64 2, .int .u8 0, .int .u8 0, .int .u8 0, .int .u8 0, .int .u8 0, .int .u8 0, .int .u8 0, .int .u8 0, .int .u8 0, .int .u8 0, .int .u8 0, .int .u8 0, .int .u8 0, .int .u8 0, .int .u8 0, .int .u8 0, .int .u8 0, .int .u8 0, .int .u8 0, .int .u8 0, .slice A19 t.length c20] 43, .row A33 ((106 :: UInt8.ofNat t.length :: t).length) c34 5 1 (by8 (106 :: UInt8.ofNat t.length :: t))] w46 := H48
  refine GL.semU (j := 2) r47 [2] [(2, pt p3 0)] (by kernel_rfl) rfl rfl rfl ?_
  refine GL.k rfl hK45 (fun _ _ h => h) ?_
  refine G.ret ?_
  intro F_ hF_ hM_
  refine hRet _ _ (bodyPost_1 rfl (RV.cell rfl (H48.ldA (o := 0) (ty := 43) (m := 22) (sub := [.int .i64 2, .int .u8 0, .int .u8 0, .int .u8 0, .int .u8 0, .int .u8 0, .int .u8 0, .int .u8 0, .int .u8 0, .int .u8 0, .int .u8 0, .int .u8 0, .int .u8 0, .int .u8 0, .int .u8 0, .int .u8 0, .int .u8 0, .int .u8 0, .int .u8 0, .int .u8 0, .int .u8 0, .slice A19 t.length c20]) 0 rfl (by kernel_rfl) rfl rfl)) ?_ F_ hF_ hM_)
  exact ⟨_, _, rfl, H48.sub (by simp)⟩
theorem Parse_tag23 (x0 x1 x2 x3 x4 x5 x6 x7 x8 x9 x10 x11 x12 x13 x14 x15 x16 x17 x18 x19 x20 x21 x22 : UInt8) (A : Option Addr) (c : Nat) (w : World) (hr : RdS w A (by8 ([106, 23, x0, x1, x2, x3, x4, x5, x6, x7, x8, x9, x10, x11, x12, x13, x14, x15, x16, x17, x18, x19, x20, x21, x22] : List UInt8))) (hc : 25 ≤ c) : Calls Try.prog 11 #[.slice A 25 c] w fun e w' => ∃ A c, e = .returned (.agg #[.int .i64 2, .int .u8 0, .int .u8 0, .int .u8 0, .int .u8 0, .int .u8 0, .int .u8 0, .int .u8 0, .int .u8 0, .int .u8 0, .int .u8 0, .int .u8 0, .int .u8 0, .int .u8 0, .int .u8 0, .int .u8 0, .int .u8 0, .int .u8 0, .int .u8 0, .int .u8 0, .int .u8 0, .slice A 23 c]) ∧ Hp w [] [.row A 23 c 5 1 (by8 ([x0, x1, x2, x3, x4, x5, x6, x7, x8, x9, x10, x11, x12, x13, x14, x15, x16, x17, x18, x19, x20, x21, x22] : List UInt8))] w' := by
  refine calls_G (args := [.slice A 25 c]) Try.func11 rfl Try.ntmps11 rfl ?_
  intro Q0 hRet hNor hPan
  have H := Hp.start w
  have H : Hp w [] [] w := H
  refine G.seqK fun K1 hK2 => ?_
  refine G.region ?_
  obtain ⟨p3, w4, r5, H6⟩ := H.alloc (P := Try.prog) 43 [.int .i64 0, .int .u8 0, .int .u8 0, .int .u8 0, .int .u8 0, .int .u8 0, .int .u8 0, .int .u8 0, .int .u8 0, .int .u8 0, .int .u8 0, .int .u8 0, .int .u8 0, .int .u8 0, .int .u8 0, .int .u8 0, .int .u8 0, .int .u8 0, .int .u8 0, .int .u8 0, .int .u8 0, .slice none 0 0] (by kernel_rfl)
  have H6 : Hp w [] [.blk p3 [.int .i64 0, .int .u8 0, .int .u8 0, .int .u8 0, .int .u8 0, .int .u8 0, .int .u8 0, .int .u8 0, .int .u8 0, .int .u8 0, .int .u8 0, .int .u8 0, .int .u8 0, .int .u8 0, .int .u8 0, .int .u8 0, .int .u8 0, .int .u8 0, .int .u8 0, .int .u8 0, .int .u8 0, .slice none 0 0] 43] w4 := H6
  refine GL.sem (j := 1) (r5) [0, 2] [(0, .slice A 25 c), (2, pt p3 0)] (by kernel_rfl) (by kernel_rfl) rfl ?_
  refine GL.k rfl hK2 (fun _ _ h => h) ?_
  refine G.seqK fun K7 hK8 => ?_
  refine G.seqK fun K9 hK10 => ?_
  refine G.region ?_
  refine GL.run (j := 3) 3 [0, 2, 11] [(0, .slice A 25 c), (2, pt p3 0), (11, .bool true)] (by kernel_rfl) rfl ?_
  refine GL.k rfl hK10 (fun _ _ h => h) ?_
  refine G.yes rfl ?_
  refine G.seqK fun K11 hK12 => ?_
  refine G.region ?_
  refine GL.run (j := 1) 1 [0, 2, 12] [(0, .slice A 25 c), (2, pt p3 0), (12, .slice A 25 c)] (by kernel_rfl) rfl ?_
  refine GL.sem (j := 2) (run_sliceSl (P := Try.prog) (lo := some (.int .i64 3)) (hi := some (.int .i64 23)) (t := 38) (len := 25) (cap := c) (A := A) (l := 3) (h := 23) (by kernel_rfl) (Or.inr ⟨_, _, rfl, rfl⟩) (Or.inr ⟨_, _, rfl, rfl⟩) (by omega) (by omega)) [0, 2, 13] [(0, .slice A 25 c), (2, pt p3 0), (13, .slice (if c = 3 then A else Option.map (fun x => Addr.add x 3) A) 20 (c - 3))] (by kernel_rfl) (by kernel_rfl) rfl ?_
  refine GL.sem (j := 3) (run_s2a (P := Try.prog) (t := 28) (len := 20) (cap := (c - 3)) (n := 20) (A := (if c = 3 then A else Option.map (fun x => Addr.add x 3) A)) (by kernel_rfl) (by omega)) [0, 2, 14] [(0, .slice A 25 c), (2, pt p3 0), (14, .pointer (if c = 3 then A else Option.map (fun x => Addr.add x 3) A))] (by kernel_rfl) (by kernel_rfl) rfl ?_
  refine GL.sem (j := 4) (run_ldArr (P := Try.prog) (ty := 28) (m := 20) (A := (if c = 3 then A else Option.map (fun x => Addr.add x 3) A)) (xs := by8 ([x1, x2, x3, x4, x5, x6, x7, x8, x9, x10, x11, x12, x13, x14, x15, x16, x17, x18, x19, x20] : List UInt8)) (by kernel_rfl) (RdS.cut8 (cap := c) (hr.hp H6) 3 23 (cs := ([x1, x2, x3, x4, x5, x6, x7, x8, x9, x10, x11, x12, x13, x14, x15, x16, x17, x18, x19, x20] : List UInt8)) (by first | rfl | omega | (simp only [List.length_cons, List.length_nil, List.length_drop, List.length_take, List.length_append] <;> omega)) rfl) rfl (by decide)) [0, 2, 15] [(0, .slice A 25 c), (2, pt p3 0), (15, .agg #[.int .u8 (x1.toNat : Int), .int .u8 (x2.toNat : Int), .int .u8 (x3.toNat : Int), .int .u8 (x4.toNat : Int), .int .u8 (x5.toNat : Int), .int .u8 (x6.toNat : Int), .int .u8 (x7.toNat : Int), .int .u8 (x8.toNat : Int), .int .u8 (x9.toNat : Int), .int .u8 (x10.toNat : Int), .int .u8 (x11.toNat : Int), .int .u8 (x12.toNat : Int), .int .u8 (x13.toNat : Int), .int .u8 (x14.toNat : Int), .int .u8 (x15.toNat : Int), .int .u8 (x16.toNat : Int), .int .u8 (x17.toNat : Int), .int .u8 (x18.toNat : Int), .int .u8 (x19.toNat : Int), .int .u8 (x20.toNat : Int)])] (by kernel_rfl) (by kernel_rfl) rfl ?_
  refine GL.run (j := 5) 1 [0, 2, 16] [(0, .slice A 25 c), (2, pt p3 0), (16, .agg #[.int .i64 1, .int .u8 (x1.toNat : Int), .int .u8 (x2.toNat : Int), .int .u8 (x3.toNat : Int), .int .u8 (x4.toNat : Int), .int .u8 (x5.toNat : Int), .int .u8 (x6.toNat : Int), .int .u8 (x7.toNat : Int), .int .u8 (x8.toNat : Int), .int .u8 (x9.toNat : Int), .int .u8 (x10.toNat : Int), .int .u8 (x11.toNat : Int), .int .u8 (x12.toNat : Int), .int .u8 (x13.toNat : Int), .int .u8 (x14.toNat : Int), .int .u8 (x15.toNat : Int), .int .u8 (x16.toNat : Int), .int .u8 (x17.toNat : Int), .int .u8 (x18.toNat : Int), .int .u8 (x19.toNat : Int), .int .u8 (x20.toNat : Int), .slice none 0 0])] (by kernel_rfl) rfl ?_
  obtain ⟨p13, w14, r15, H16⟩ := H6.alloc (P := Try.prog) 43 [.int .i64 0, .int .u8 0, .int .u8 0, .int .u8 0, .int .u8 0, .int .u8 0, .int .u8 0, .int .u8 0, .int .u8 0, .int .u8 0, .int .u8 0, .int .u8 0, .int .u8 0, .int .u8 0, .int .u8 0, .int .u8 0, .int .u8 0, .int .u8 0, .int .u8 0, .int .u8 0, .int .u8 0, .slice none 0 0] (by kernel_rfl)
  have H16 : Hp w [] [.blk p3 [.int .i64 0, .int .u8 0, .int .u8 0, .int .u8 0, .int .u8 0, .int .u8 0, .int .u8 0, .int .u8 0, .int .u8 0, .int .u8 0, .int .u8 0, .int .u8 0, .int .u8 0, .int .u8 0, .int .u8 0, .int .u8 0, .int .u8 0, .int .u8 0, .int .u8 0, .int .u8 0, .int .u8 0, .slice none 0 0] 43, .blk p13 [.int .i64 0, .int .u8 0, .int .u8 0, .int .u8 0, .int .u8 0, .int .u8 0, .int .u8 0, .int .u8 0, .int .u8 0, .int .u8 0, .int .u8 0, .int .u8 0, .int .u8 0, .int .u8 0, .int .u8 0, .int .u8 0, .int .u8 0, .int .u8 0, .int .u8 0, .int .u8 0, .int .u8 0, .slice none 0 0] 43] w14 := H16
  refine GL.sem (j := 6) (r15) [0, 2, 3, 16] [(0, .slice A 25 c), (2, pt p3 0), (3, pt p13 0), (16, .agg #[.int .i64 1, .int .u8 (x1.toNat : Int), .int .u8 (x2.toNat : Int), .int .u8 (x3.toNat : Int), .int .u8 (x4.toNat : Int), .int .u8 (x5.toNat : Int), .int .u8 (x6.toNat : Int), .int .u8 (x7.toNat : Int), .int .u8 (x8.toNat : Int), .int .u8 (x9.toNat : Int), .int .u8 (x10.toNat : Int), .int .u8 (x11.toNat : Int), .int .u8 (x12.toNat : Int), .int .u8 (x13.toNat : Int), .int .u8 (x14.toNat : Int), .int .u8 (x15.toNat : Int), .int .u8 (x16.toNat : Int), .int .u8 (x17.toNat : Int), .int .u8 (x18.toNat : Int), .int .u8 (x19.toNat : Int), .int .u8 (x20.toNat : Int), .slice none 0 0])] (by kernel_rfl) (by kernel_rfl) rfl ?_
  obtain ⟨w17, r18, H19⟩ := H16.stA (P := Try.prog) (o := 0) (vs := [.int .i64 1, .int .u8 (x1.toNat : Int), .int .u8 (x2.toNat : Int), .int .u8 (x3.toNat : Int), .int .u8 (x4.toNat : Int), .int .u8 (x5.toNat : Int), .int .u8 (x6.toNat : Int), .int .u8 (x7.toNat : Int), .int .u8 (x8.toNat : Int), .int .u8 (x9.toNat : Int), .int .u8 (x10.toNat : Int), .int .u8 (x11.toNat : Int), .int .u8 (x12.toNat : Int), .int .u8 (x13.toNat : Int), .int .u8 (x14.toNat : Int), .int .u8 (x15.toNat : Int), .int .u8 (x16.toNat : Int), .int .u8 (x17.toNat : Int), .int .u8 (x18.toNat : Int), .int .u8 (x19.toNat : Int), .int .u8 (x20.toNat : Int), .slice none 0 0]) (ty := 43) (m := 22) 1 rfl (by kernel_rfl) rfl (by simp) (by simp [Value.oneCell'])
  have H19 : Hp w [] [.blk p3 [.int .i64 0, .int .u8 0, .int .u8 0, .int .u8 0, .int .u8 0, .int .u8 0, .int .u8 0, .int .u8 0, .int .u8 0, .int .u8 0, .int .u8 0, .int .u8 0, .int .u8 0, .int .u8 0, .int .u8 0, .int .u8 0, .int .u8 0, .int .u8 0, .int .u8 0, .int .u8 0, .int .u8 0, .slice none 0 0] 43, .blk p13 [.int .i64 1, .int .u8 (x1.toNat : Int), .int .u8 (x2.toNat : Int), .int .u8 (x3.toNat : Int), .int .u8 (x4.toNat : Int), .int .u8 (x5.toNat : Int), .int .u8 (x6.toNat : Int), .int .u8 (x7.toNat : Int), .int .u8 (x8.toNat : Int), .int .u8 (x9.toNat : Int), .int .u8 (x10.toNat : Int), .int .u8 (x11.toNat : Int), .int .u8 (x12.toNat : Int), .int .u8 (x13.toNat : Int), .int .u8 (x14.toNat : Int), .int .u8 (x15.toNat : Int), .int .u8 (x16.toNat : Int), .int .u8 (x17.toNat : Int), .int .u8 (x18.toNat : Int), .int .u8 (x19.toNat : Int), .int .u8 (x20.toNat : Int), .slice none 0 0] 43] w17 := H19
  refine GL.semU (j := 7) r18 [0, 2, 3] [(0, .slice A 25 c), (2, pt p3 0), (3, pt p13 0)] (by kernel_rfl) rfl rfl rfl ?_
  refine GL.k rfl hK12 (fun _ _ h => h) ?_
  refine G.seqK fun K20 hK21 => ?_
  refine G.region ?_
  refine GL.sem (j := 1) (H19.ldA (o := 0) (ty := 43) (m := 22) (sub := [.int .i64 1, .int .u8 (x1.toNat : Int), .int .u8 (x2.toNat : Int), .int .u8 (x3.toNat : Int), .int .u8 (x4.toNat : Int), .int .u8 (x5.toNat : Int), .int .u8 (x6.toNat : Int), .int .u8 (x7.toNat : Int), .int .u8 (x8.toNat : Int), .int .u8 (x9.toNat : Int), .int .u8 (x10.toNat : Int), .int .u8 (x11.toNat : Int), .int .u8 (x12.toNat : Int), .int .u8 (x13.toNat : Int), .int .u8 (x14.toNat : Int), .int .u8 (x15.toNat : Int), .int .u8 (x16.toNat : Int), .int .u8 (x17.toNat : Int), .int .u8 (x18.toNat : Int), .int .u8 (x19.toNat : Int), .int .u8 (x20.toNat : Int), .slice none 0 0]) 1 rfl (by kernel_rfl) rfl rfl) [0, 2, 3, 18] [(0, .slice A 25 c), (2, pt p3 0), (3, pt p13 0), (18, .agg #[.int .i64 1, .int .u8 (x1.toNat : Int), .int .u8 (x2.toNat : Int), .int .u8 (x3.toNat : Int), .int .u8 (x4.toNat : Int), .int .u8 (x5.toNat : Int), .int .u8 (x6.toNat : Int), .int .u8 (x7.toNat : Int), .int .u8 (x8.toNat : Int), .int .u8 (x9.toNat : Int), .int .u8 (x10.toNat : Int), .int .u8 (x11.toNat : Int), .int .u8 (x12.toNat : Int), .int .u8 (x13.toNat : Int), .int .u8 (x14.toNat : Int), .int .u8 (x15.toNat : Int), .int .u8 (x16.toNat : Int), .int .u8 (x17.toNat : Int), .int .u8 (x18.toNat : Int), .int .u8 (x19.toNat : Int), .int .u8 (x20.toNat : Int), .slice none 0 0])] (by kernel_rfl) (by kernel_rfl) rfl ?_
  refine GL.call (j := 2) (Bytes_addr x1 x2 x3 x4 x5 x6 x7 x8 x9 x10 x11 x12 x13 x14 x15 x16 x17 x18 x19 x20 none 0 0 w17) (by kernel_rfl) rfl (fun e_ w26 hR => ?_)
  obtain ⟨A22, c23, rfl, H25⟩ := hR
  have H24 : Hp w [] [.blk p3 [.int .i64 0, .int .u8 0, .int .u8 0, .int .u8 0, .int .u8 0, .int .u8 0, .int .u8 0, .int .u8 0, .int .u8 0, .int .u8 0, .int .u8 0, .int .u8 0, .int .u8 0, .int .u8 0, .int .u8 0, .int .u8 0, .int .u8 0, .int .u8 0, .int .u8 0, .int .u8 0, .int .u8 0, .slice none 0 0] 43, .blk p13 [.int .i64 1, .int .u8 (x1.toNat : Int), .int .u8 (x2.toNat : Int), .int .u8 (x3.toNat : Int), .int .u8 (x4.toNat : Int), .int .u8 (x5.toNat : Int), .int .u8 (x6.toNat : Int), .int .u8 (x7.toNat : Int), .int .u8 (x8.toNat : Int), .int .u8 (x9.toNat : Int), .int .u8 (x10.toNat : Int), .int .u8 (x11.toNat : Int), .int .u8 (x12.toNat : Int), .int .u8 (x13.toNat : Int), .int .u8 (x14.toNat : Int), .int .u8 (x15.toNat : Int), .int .u8 (x16.toNat : Int), .int .u8 (x17.toNat : Int), .int .u8 (x18.toNat : Int), .int .u8 (x19.toNat : Int), .int .u8 (x20.toNat : Int), .slice none 0 0] 43, .row A22 (([118, 169, 20, x1, x2, x3, x4, x5, x6, x7, x8, x9, x10, x11, x12, x13, x14, x15, x16, x17, x18, x19, x20, 136, 172] : List UInt8).length) c23 5 1 (by8 ([118, 169, 20, x1, x2, x3, x4, x5, x6, x7, x8, x9, x10, x11, x12, x13, x14, x15, x16, x17, x18, x19, x20, 136, 172] : List UInt8))] w26 := H19.callNew H25
  refine ⟨_, rfl, [0, 2, 3, 19], [(0, .slice A 25 c), (2, pt p3 0), (3, pt p13 0), (19, .tuple #[.slice A22 (([118, 169, 20, x1, x2, x3, x4, x5, x6, x7, x8, x9, x10, x11, x12, x13, x14, x15, x16, x17, x18, x19, x20, 136, 172] : List UInt8).length) c23, .int .i64 0])], by kernel_rfl, ?_⟩
  refine GL.run (j := 7) 5 [0, 2, 3, 4, 5] [(0, .slice A 25 c), (2, pt p3 0), (3, pt p13 0), (4, .slice A22 (([118, 169, 20, x1, x2, x3, x4, x5, x6, x7, x8, x9, x10, x11, x12, x13, x14, x15, x16, x17, x18, x19, x20, 136, 172] : List UInt8).length) c23), (5, .int .i64 0)] (by kernel_rfl) rfl ?_
  refine GL.k rfl hK21 (fun _ _ h => h) ?_
  refine G.seqK fun K27 hK28 => ?_
  refine G.region ?_
  refine GL.run (j := 5) 5 [0, 2, 3, 24, 25, 26] [(0, .slice A 25 c), (2, pt p3 0), (3, pt p13 0), (24, .bool true), (25, .slice A22 (([118, 169, 20, x1, x2, x3, x4, x5, x6, x7, x8, x9, x10, x11, x12, x13, x14, x15, x16, x17, x18, x19, x20, 136, 172] : List UInt8).length) c23), (26, .slice A 25 c)] (by kernel_rfl) rfl ?_
  refine GL.call (j := 6) (Equal_calls ([118, 169, 20, x1, x2, x3, x4, x5, x6, x7, x8, x9, x10, x11, x12, x13, x14, x15, x16, x17, x18, x19, x20, 136, 172] : List UInt8) ([106, 23, x0, x1, x2, x3, x4, x5, x6, x7, x8, x9, x10, x11, x12, x13, x14, x15, x16, x17, x18, x19, x20, x21, x22] : List UInt8) A22 A c23 c w26 (H24.rdRow 2 rfl) (hr.hp H24)) (by kernel_rfl) rfl (fun e_ w29 hR => ?_)
  obtain ⟨rfl, H31⟩ := hR
  have H30 : Hp w [] [.blk p3 [.int .i64 0, .int .u8 0, .int .u8 0, .int .u8 0, .int .u8 0, .int .u8 0, .int .u8 0, .int .u8 0, .int .u8 0, .int .u8 0, .int .u8 0, .int .u8 0, .int .u8 0, .int .u8 0, .int .u8 0, .int .u8 0, .int .u8 0, .int .u8 0, .int .u8 0, .int .u8 0, .int .u8 0, .slice none 0 0] 43, .blk p13 [.int .i64 1, .int .u8 (x1.toNat : Int), .int .u8 (x2.toNat : Int), .int .u8 (x3.toNat : Int), .int .u8 (x4.toNat : Int), .int .u8 (x5.toNat : Int), .int .u8 (x6.toNat : Int), .int .u8 (x7.toNat : Int), .int .u8 (x8.toNat : Int), .int .u8 (x9.toNat : Int), .int .u8 (x10.toNat : Int), .int .u8 (x11.toNat : Int), .int .u8 (x12.toNat : Int), .int .u8 (x13.toNat : Int), .int .u8 (x14.toNat : Int), .int .u8 (x15.toNat : Int), .int .u8 (x16.toNat : Int), .int .u8 (x17.toNat : Int), .int .u8 (x18.toNat : Int), .int .u8 (x19.toNat : Int), .int .u8 (x20.toNat : Int), .slice none 0 0] 43, .row A22 (([118, 169, 20, x1, x2, x3, x4, x5, x6, x7, x8, x9, x10, x11, x12, x13, x14, x15, x16, x17, x18, x19, x20, 136, 172] : List UInt8).length) c23 5 1 (by8 ([118, 169, 20, x1, x2, x3, x4, x5, x6, x7, x8, x9, x10, x11, x12, x13, x14, x15, x16, x17, x18, x19, x20, 136, 172] : List UInt8))] w29 := H24.callNil H31
  refine ⟨_, rfl, [0, 2, 3, 24, 27], [(0, .slice A 25 c), (2, pt p3 0), (3, pt p13 0), (24, .bool true), (27, .bool (([118, 169, 20, x1, x2, x3, x4, x5, x6, x7, x8, x9, x10, x11, x12, x13, x14, x15, x16, x17, x18, x19, x20, 136, 172] : List UInt8) == ([106, 23, x0, x1, x2, x3, x4, x5, x6, x7, x8, x9, x10, x11, x12, x13, x14, x15, x16, x17, x18, x19, x20, x21, x22] : List UInt8)))], by kernel_rfl, ?_⟩
  refine GL.run (j := 7) 1 [0, 2, 3, 28] [(0, .slice A 25 c), (2, pt p3 0), (3, pt p13 0), (28, .bool (([118, 169, 20, x1, x2, x3, x4, x5, x6, x7, x8, x9, x10, x11, x12, x13, x14, x15, x16, x17, x18, x19, x20, 136, 172] : List UInt8) == ([106, 23, x0, x1, x2, x3, x4, x5, x6, x7, x8, x9, x10, x11, x12, x13, x14, x15, x16, x17, x18, x19, x20, x21, x22] : List UInt8)))] (by kernel_rfl) rfl ?_
  refine GL.k rfl hK28 (fun _ _ h => h) ?_
  have hb32 : (([118, 169, 20, x1, x2, x3, x4, x5, x6, x7, x8, x9, x10, x11, x12, x13, x14, x15, x16, x17, x18, x19, x20, 136, 172] : List UInt8) == ([106, 23, x0, x1, x2, x3, x4, x5, x6, x7, x8, x9, x10, x11, x12, x13, x14, x15, x16, x17, x18, x19, x20, x21, x22] : List UInt8)) = false := by simp
  rw [hb32]
  refine G.no rfl ?_
  refine G.skipK hK8 (fun _ _ h => h) ?_
  refine G.seqK fun K33 hK34 => ?_
  refine G.seqK fun K35 hK36 => ?_
  refine G.region ?_
  refine GL.run (j := 3) 3 [0, 2, 32] [(0, .slice A 25 c), (2, pt p3 0), (32, .bool true)] (by kernel_rfl) rfl ?_
  refine GL.k rfl hK36 (fun _ _ h => h) ?_
  refine G.yes rfl ?_
  refine G.seqK fun K37 hK38 => ?_
  refine G.region ?_
  refine GL.run (j := 1) 1 [0, 2, 33] [(0, .slice A 25 c), (2, pt p3 0), (33, .slice A 25 c)] (by kernel_rfl) rfl ?_
  refine GL.sem (j := 2) (run_sliceSl (P := Try.prog) (lo := some (.int .i64 2)) (hi := none) (t := 38) (len := 25) (cap := c) (A := A) (l := 2) (h := 25) (by kernel_rfl) (Or.inr ⟨_, _, rfl, rfl⟩) (Or.inl ⟨rfl, rfl⟩) (by omega) (by omega)) [0, 2, 34] [(0, .slice A 25 c), (2, pt p3 0), (34, .slice (if c = 2 then A else Option.map (fun x => Addr.add x 2) A) 23 (c - 2))] (by kernel_rfl) (by kernel_rfl) rfl ?_
  refine GL.call (j := 3) (SClone_calls ([x0, x1, x2, x3, x4, x5, x6, x7, x8, x9, x10, x11, x12, x13, x14, x15, x16, x17, x18, x19, x20, x21, x22] : List UInt8) (if c = 2 then A else Option.map (fun x => Addr.add x 2) A) (c - 2) w29 (RdS.drop8 (cap := c) (hr.hp H30) 2 (cs := ([x0, x1, x2, x3, x4, x5, x6, x7, x8, x9, x10, x11, x12, x13, x14, x15, x16, x17, x18, x19, x20, x21, x22] : List UInt8)) (by first | rfl | omega | (simp only [List.length_cons, List.length_nil, List.length_drop, List.length_take, List.length_append] <;> omega)) rfl) (isNone_drop hr (by first | rfl | omega | (simp only [List.length_cons, List.length_nil, List.length_drop, List.length_take, List.length_append] <;> omega)) (by first | rfl | omega | (simp only [List.length_cons, List.length_nil, List.length_drop, List.length_take, List.length_append] <;> omega))) (by first | rfl | omega | (simp only [List.length_cons, List.length_nil, List.length_drop, List.length_take, List.length_append] <;> omega))) (by kernel_rfl) rfl (fun e_ w43 hR => ?_)
  obtain ⟨A39, c40, rfl, H42⟩ := hR
  have H41 : Hp w [] [.blk p3 [.int .i64 0, .int .u8 0, .int .u8 0, .int .u8 0, .int .u8 0, .int .u8 0, .int .u8 0, .int .u8 0, .int .u8 0, .int .u8 0, .int .u8 0, .int .u8 0, .int .u8 0, .int .u8 0, .int .u8 0, .int .u8 0, .int .u8 0, .int .u8 0, .int .u8 0, .int .u8 0, .int .u8 0, .slice none 0 0] 43, .blk p13 [.int .i64 1, .int .u8 (x1.toNat : Int), .int .u8 (x2.toNat : Int), .int .u8 (x3.toNat : Int), .int .u8 (x4.toNat : Int), .int .u8 (x5.toNat : Int), .int .u8 (x6.toNat : Int), .int .u8 (x7.toNat : Int), .int .u8 (x8.toNat : Int), .int .u8 (x9.toNat : Int), .int .u8 (x10.toNat : Int), .int .u8 (x11.toNat : Int), .int .u8 (x12.toNat : Int), .int .u8 (x13.toNat : Int), .int .u8 (x14.toNat : Int), .int .u8 (x15.toNat : Int), .int .u8 (x16.toNat : Int), .int .u8 (x17.toNat : Int), .int .u8 (x18.toNat : Int), .int .u8 (x19.toNat : Int), .int .u8 (x20.toNat : Int), .slice none 0 0] 43, .row A22 (([118, 169, 20, x1, x2, x3, x4, x5, x6, x7, x8, x9, x10, x11, x12, x13, x14, x15, x16, x17, x18, x19, x20, 136, 172] : List UInt8).length) c23 5 1 (by8 ([118, 169, 20, x1, x2, x3, x4, x5, x6, x7, x8, x9, x10, x11, x12, x13, x14, x15, x16, x17, x18, x19, x20, 136, 172] : List UInt8)), .row A39 23 c40 5 1 (by8 ([x0, x1, x2, x3, x4, x5, x6, x7, x8, x9, x10, x11, x12, x13, x14, x15, x16, x17, x18, x19, x20, x21, x22] : List UInt8))] w43 := H30.callNew H42
  refine ⟨_, rfl, [0, 2, 35], [(0, .slice A 25 c), (2, pt p3 0), (35, .slice A39 23 c40)], by kernel_rfl, ?_⟩
  refine GL.run (j := 4) 1 [0, 2, 36] [(0, .slice A 25 c), (2, pt p3 0), (36, .agg #[.int .i64 2, .int .u8 0, .int .u8 0, .int .u8 0, .int .u8 0, .int .u8 0, .int .u8 0, .int .u8 0, .int .u8 0, .int .u8 0, .int .u8 0, .int .u8 0, .int .u8 0, .int .u8 0, .int .u8 0, .int .u8 0, .int .u8 0, .int .u8 0, .int .u8 0, .int .u8 0, .int .u8 0, .slice A39 23 c40])] (by kernel_rfl) rfl ?_
  obtain ⟨p44, w45, r46, H47⟩ := H41.alloc (P := Try.prog) 43 [.int .i64 0, .int .u8 0, .int .u8 0, .int .u8 0, .int .u8 0, .int .u8 0, .int .u8 0, .int .u8 0, .int .u8 0, .int .u8 0, .int .u8 0, .int .u8 0, .int .u8 0, .int .u8 0, .int .u8 0, .int .u8 0, .int .u8 0, .int .u8 0, .int .u8 0, .int .u8 0, .int .u8 0, .slice none 0 0] (by kernel_rfl)
  have H47 : Hp w [] [.blk p3 [.int .i64 0, .int .u8 0, .int .u8 0, .int .u8 0, .int .u8 0, .int .u8 0, .int .u8 0, .int .u8 0, .int .u8 0, .int .u8 0, .int .u8 0, .int .u8 0, .int .u8 0, .int .u8 0, .int .u8 0, .int .u8 0, .int .u8 0, .int .u8 0, .int .u8 0, .int .u8 0, .int .u8 0, .slice none 0 0] 43, .blk p13 [.int .i64 1, .int .u8 (x1.toNat : Int), .int .u8 (x2.toNat : Int), .int .u8 (x3.toNat : Int), .int .u8 (x4.toNat : Int), .int .u8 (x5.toNat : Int), .int .u8 (x6.toNat : Int), .int .u8 (x7.toNat : Int), .int .u8 (x8.toNat : Int), .int .u8 (x9.toNat : Int), .int .u8 (x10.toNat : Int), .int .u8 (x11.toNat : Int), .int .u8 (x12.toNat : Int), .int .u8 (x13.toNat : Int), .int .u8 (x14.toNat : Int), .int .u8 (x15.toNat : Int), .int .u8 (x16.toNat : Int), .int .u8 (x17.toNat : Int), .int .u8 (x18.toNat : Int), .int .u8 (x19.toNat : Int), .int .u8 (x20.toNat : Int), .slice none 0 0] 43, .row A22 (([118, 169, 20, x1, x2, x3, x4, x5, x6, x7, x8, x9, x10, x11, x12, x13, x14, x15, x16, x17, x18, x19, x20, 136, 172] : List UInt8).length) c23 5 1 (by8 ([118, 169, 20, x1, x2, x3, x4, x5, x6, x7, x8, x9, x10, x11, x12, x13, x14, x15, x16, x17, x18, x19, x20, 136, 172] : List UInt8)), .row A39 23 c40 5 1 (by8 ([x0, x1, x2, x3, x4, x5, x6, x7, x8, x9, x10, x11, x12, x13, x14, x15, x16, x17, x18, x19, x20, x21, x22] : List UInt8)), .blk p44 [.int .i64 0, .int .u8 0, .int .u8 0, .int .u8 0, .int .u8 0, .int .u8 0, .int .u8 0, .int .u8 0, .int .u8 0, .int .u8 0, .int .u8 0, .int .u8 0, .int .u8 0, .int .u8 0, .int .u8 0, .int .u8 0, .int .u8 0, .int .u8 0, .int .u8 0, .int .u8 0, .int .u8 0, .slice none 0 0] 43] w45 := H47
  refine GL.sem (j := 5) (r46) [0, 2, 6, 36] [(0, .slice A 25 c), (2, pt p3 0), (6, pt p44 0), (36, .agg #[.int .i64 2, .int .u8 0, .int .u8 0, .int .u8 0, .int .u8 0, .int .u8 0, .int .u8 0, .int .u8 0, .int .u8 0, .int .u8 0, .int .u8 0, .int .u8 0, .int .u8 0, .int .u8 0, .int .u8 0, .int .u8 0, .int .u8 0, .int .u8 0, .int .u8 0, .int .u8 0, .int .u8 0, .slice A39 23 c40])] (by kernel_rfl) (by kernel_rfl) rfl ?_
  obtain ⟨w48, r49, H50⟩ := H47.stA (P := Try.prog) (o := 0) (vs := [.int .i64 2, .int .u8 0, .int .u8 0, .int .u8 0, .int .u8 0, .int .u8 0, .int .u8 0, .int .u8 0, .int .u8 0, .int .u8 0, .int .u8 0, .int .u8 0, .int .u8 0, .int .u8 0, .int .u8 0, .int .u8 0, .int .u8 0, .int .u8 0, .int .u8 0, .int .u8 0, .int .u8 0, .slice A39 23 c40]) (ty := 43) (m := 22) 4 rfl (by kernel_rfl) rfl (by simp) (by simp [Value.oneCell'])
  have H50 : Hp w [] [.blk p3 [.int .i64 0, .int .u8 0, .int .u8 0, .int .u8 0, .int .u8 0, .int .u8 0, .int .u8 0, .int .u8 0, .int .u8 0, .int .u8 0, .int .u8 0, .int .u8 0, .int .u8 0, .int .u8 0, .int .u8 0, .int .u8 0, .int .u8 0, .int .u8 0, .int .u8 0, .int .u8 0, .int .u8 0, .slice none 0 0] 43, .blk p13 [.int .i64 1, .int .u8 (x1.toNat : Int), .int .u8 (x2.toNat : Int), .int .u8 (x3.toNat : Int), .int .u8 (x4.toNat : Int), .int .u8 (x5.toNat : Int), .int .u8 (x6.toNat : Int), .int .u8 (x7.toNat : Int), .int .u8 (x8.toNat : Int), .int .u8 (x9.toNat : Int), .int .u8 (x10.toNat : Int), .int .u8 (x11.toNat : Int), .int .u8 (x12.toNat : Int), .int .u8 (x13.toNat : Int), .int .u8 (x14.toNat : Int), .int .u8 (x15.toNat : Int), .int .u8 (x16.toNat : Int), .int .u8 (x17.toNat : Int), .int .u8 (x18.toNat : Int), .int .u8 (x19.toNat : Int), .int .u8 (x20.toNat : Int), .slice none 0 0] 43, .row A22 (([118, 169, 20, x1, x2, x3, x4, x5, x6, x7, x8, x9, x10, x11, x12, x13, x14, x15, x16, x17, x18, x19, x20, 136, 172] : List UInt8).length) c23 5 1 (by8 ([118, 169, 20, x1, x2, x3, x4, x5, x6, x7, x8, x9, x10, x11, x12, x13, x14, x15, x16, x17, x18, x19, x20, 136, 172] : List UInt8)), .row A39 23 c40 5 1 (by8 ([x0, x1, x2, x3, x4, x5, x6, x7, x8, x9, x10, x11, x12, x13, x14, x15, x16, x17, x18, x19, x20, x21, x22] : List UInt8)), .blk p44 [.int .i64 2, .int .u8 0, .int .u8 0, .int .u8 0, .int .u8 0, .int .u8 0, .int .u8 0, .int .u8 0, .int .u8 0, .int .u8 0, .int .u8 0, .int .u8 0, .int .u8 0, .int .u8 0, .int .u8 0, .int .u8 0, .int .u8 0, .int .u8 0, .int .u8 0, .int .u8 0, .int .u8 0, .slice A39 23 c40] 43] w48 := H50
  refine GL.semU (j := 6) r49 [0, 2, 6] [(0, .slice A 25 c), (2, pt p3 0), (6, pt p44 0)] (by kernel_rfl) rfl rfl rfl ?_
  refine GL.k rfl hK38 (fun _ _ h => h) ?_
  refine G.seqK fun K51 hK52 => ?_
  refine G.region ?_
  refine GL.sem (j := 1) (H50.ldA (o := 0) (ty := 43) (m := 22) (sub := [.int .i64 2, .int .u8 0, .int .u8 0, .int .u8 0, .int .u8 0, .int .u8 0, .int .u8 0, .int .u8 0, .int .u8 0, .int .u8 0, .int .u8 0, .int .u8 0, .int .u8 0, .int .u8 0, .int .u8 0, .int .u8 0, .int .u8 0, .int .u8 0, .int .u8 0, .int .u8 0, .int .u8 0, .slice A39 23 c40]) 4 rfl (by kernel_rfl) rfl rfl) [0, 2, 6, 38] [(0, .slice A 25 c), (2, pt p3 0), (6, pt p44 0), (38, .agg #[.int .i64 2, .int .u8 0, .int .u8 0, .int .u8 0, .int .u8 0, .int .u8 0, .int .u8 0, .int .u8 0, .int .u8 0, .int .u8 0, .int .u8 0, .int .u8 0, .int .u8 0, .int .u8 0, .int .u8 0, .int .u8 0, .int .u8 0, .int .u8 0, .int .u8 0, .int .u8 0, .int .u8 0, .slice A39 23 c40])] (by kernel_rfl) (by kernel_rfl) rfl ?_
  refine GL.call (j := 2) (Bytes_tag (0 : UInt8) (0 : UInt8) (0 : UInt8) (0 : UInt8) (0 : UInt8) (0 : UInt8) (0 : UInt8) (0 : UInt8) (0 : UInt8) (0 : UInt8) (0 : UInt8) (0 : UInt8) (0 : UInt8) (0 : UInt8) (0 : UInt8) (0 : UInt8) (0 : UInt8) (0 : UInt8) (0 : UInt8) (0 : UInt8) ([x0, x1, x2, x3, x4, x5, x6, x7, x8, x9, x10, x11, x12, x13, x14, x15, x16, x17, x18, x19, x20, x21, x22] : List UInt8) A39 c40 w48 (H50.rdRow 3 rfl) (by simp) (by simp)) (by kernel_rfl) rfl (fun e_ w57 hR => ?_)
  obtain ⟨A53, c54, rfl, H56⟩ := hR
  have H55 : Hp w [] [.blk p3 [.int .i64 0, .int .u8 0, .int .u8 0, .int .u8 0, .int .u8 0, .int .u8 0, .int .u8 0, .int .u8 0, .int .u8 0, .int .u8 0, .int .u8 0, .int .u8 0, .int .u8 0, .int .u8 0, .int .u8 0, .int .u8 0, .int .u8 0, .int .u8 0, .int .u8 0, .int .u8 0, .int .u8 0, .slice none 0 0] 43, .blk p13 [.int .i64 1, .int .u8 (x1.toNat : Int), .int .u8 (x2.toNat : Int), .int .u8 (x3.toNat : Int), .int .u8 (x4.toNat : Int), .int .u8 (x5.toNat : Int), .int .u8 (x6.toNat : Int), .int .u8 (x7.toNat : Int), .int .u8 (x8.toNat : Int), .int .u8 (x9.toNat : Int), .int .u8 (x10.toNat : Int), .int .u8 (x11.toNat : Int), .int .u8 (x12.toNat : Int), .int .u8 (x13.toNat : Int), .int .u8 (x14.toNat : Int), .int .u8 (x15.toNat : Int), .int .u8 (x16.toNat : Int), .int .u8 (x17.toNat : Int), .int .u8 (x18.toNat : Int), .int .u8 (x19.toNat : Int), .int .u8 (x20.toNat : Int), .slice none 0 0] 43, .row A22 (([118, 169, 20, x1, x2, x3, x4, x5, x6, x7, x8, x9, x10, x11, x12, x13, x14, x15, x16, x17, x18, x19, x20, 136, 172] : List UInt8).length) c23 5 1 (by8 ([118, 169, 20, x1, x2, x3, x4, x5, x6, x7, x8, x9, x10, x11, x12, x13, x14, x15, x16, x17, x18, x19, x20, 136, 172] : List UInt8)), .row A39 23 c40 5 1 (by8 ([x0, x1, x2, x3, x4, x5, x6, x7, x8, x9, x10, x11, x12, x13, x14, x15, x16, x17, x18, x19, x20, x21, x22] : List UInt8)), .blk p44 [.int .i64 2, .int .u8 0, .int .u8 0, .int .u8 0, .int .u8 0, .int .u8 0, .int .u8 0, .int .u8 0, .int .u8 0, .int .u8 0, .int .u8 0, .int .u8 0, .int .u8 0, .int .u8 0, .int .u8 0, .int .u8 0, .int .u8 0, .int .u8 0, .int .u8 0, .int .u8 0, .int .u8 0, .slice A39 23 c40] 43, .row A53 ((106 :: UInt8.ofNat ([x0, x1, x2, x3, x4, x5, x6, x7, x8, x9, x10, x11, x12, x13, x14, x15, x16, x17, x18, x19, x20, x21, x22] : List UInt8).length :: ([x0, x1, x2, x3, x4, x5, x6, x7, x8, x9, x10, x11, x12, x13, x14, x15, x16, x17, x18, x19, x20, x21, x22] : List UInt8)).length) c54 5 1 (by8 (106 :: UInt8.ofNat ([x0, x1, x2, x3, x4, x5, x6, x7, x8, x9, x10, x11, x12, x13, x14, x15, x16, x17, x18, x19, x20, x21, x22] : List UInt8).length :: ([x0, x1, x2, x3, x4, x5, x6, x7, x8, x9, x10, x11, x12, x13, x14, x15, x16, x17, x18, x19, x20, x21, x22] : List UInt8)))] w57 := H50.callNew H56
  refine ⟨_, rfl, [0, 2, 6, 39], [(0, .slice A 25 c), (2, pt p3 0), (6, pt p44 0), (39, .tuple #[.slice A53 ((106 :: UInt8.ofNat ([x0, x1, x2, x3, x4, x5, x6, x7, x8, x9, x10, x11, x12, x13, x14, x15, x16, x17, x18, x19, x20, x21, x22] : List UInt8).length :: ([x0, x1, x2, x3, x4, x5, x6, x7, x8, x9, x10, x11, x12, x13, x14, x15, x16, x17, x18, x19, x20, x21, x22] : List UInt8)).length) c54, .int .i64 0])], by kernel_rfl, ?_⟩
  refine GL.run (j := 7) 5 [0, 2, 6, 7, 8] [(0, .slice A 25 c), (2, pt p3 0), (6, pt p44 0), (7, .slice A53 ((106 :: UInt8.ofNat ([x0, x1, x2, x3, x4, x5, x6, x7, x8, x9, x10, x11, x12, x13, x14, x15, x16, x17, x18, x19, x20, x21, x22] : List UInt8).length :: ([x0, x1, x2, x3, x4, x5, x6, x7, x8, x9, x10, x11, x12, x13, x14, x15, x16, x17, x18, x19, x20, x21, x22] : List UInt8)).length) c54), (8, .int .i64 0)] (by kernel_rfl) rfl ?_
  refine GL.k rfl hK52 (fun _ _ h => h) ?_
  refine G.seqK fun K58 hK59 => ?_
  refine G.region ?_
  refine GL.run (j := 5) 5 [2, 6, 44, 45, 46] [(2, pt p3 0), (6, pt p44 0), (44, .bool true), (45, .slice A53 ((106 :: UInt8.ofNat ([x0, x1, x2, x3, x4, x5, x6, x7, x8, x9, x10, x11, x12, x13, x14, x15, x16, x17, x18, x19, x20, x21, x22] : List UInt8).length :: ([x0, x1, x2, x3, x4, x5, x6, x7, x8, x9, x10, x11, x12, x13, x14, x15, x16, x17, x18, x19, x20, x21, x22] : List UInt8)).length) c54), (46, .slice A 25 c)] (by kernel_rfl) rfl ?_
  refine GL.call (j := 6) (Equal_calls (106 :: UInt8.ofNat ([x0, x1, x2, x3, x4, x5, x6, x7, x8, x9, x10, x11, x12, x13, x14, x15, x16, x17, x18, x19, x20, x21, x22] : List UInt8).length :: ([x0, x1, x2, x3, x4, x5, x6, x7, x8, x9, x10, x11, x12, x13, x14, x15, x16, x17, x18, x19, x20, x21, x22] : List UInt8)) ([106, 23, x0, x1, x2, x3, x4, x5, x6, x7, x8, x9, x10, x11, x12, x13, x14, x15, x16, x17, x18, x19, x20, x21, x22] : List UInt8) A53 A c54 c w57 (H55.rdRow 5 rfl) (hr.hp H55)) (by kernel_rfl) rfl (fun e_ w60 hR => ?_)
  obtain ⟨rfl, H62⟩ := hR
  have H61 : Hp w [] [.blk p3 [.int .i64 0, .int .u8 0, .int .u8 0, .int .u8 0, .int .u8 0, .int .u8 0, .int .u8 0, .int .u8 0, .int .u8 0, .int .u8 0, .int .u8 0, .int .u8 0, .int .u8 0, .int .u8 0, .int .u8 0, .int .u8 0, .int .u8 0, .int .u8 0, .int .u8 0, .int .u8 0, .int .u8 0, .slice none 0 0] 43, .blk p13 [.int .i64 1, .int .u8 (x1.toNat : Int), .int .u8 (x2.toNat : Int), .int .u8 (x3.toNat : Int), .int .u8 (x4.toNat : Int), .int .u8 (x5.toNat : Int), .int .u8 (x6.toNat : Int), .int .u8 (x7.toNat : Int), .int .u8 (x8.toNat : Int), .int .u8 (x9.toNat : Int), .int .u8 (x10.toNat : Int), .int .u8 (x11.toNat : Int), .int .u8 (x12.toNat : Int), .int .u8 (x13.toNat : Int), .int .u8 (x14.toNat : Int), .int .u8 (x15.toNat : Int), .int .u8 (x16.toNat : Int), .int .u8 (x17.toNat : Int), .int .u8 (x18.toNat : Int), .int .u8 (x19.toNat : Int), .int .u8 (x20.toNat : Int), .slice none 0 0] 43, .row A22 (([118, 169, 20, x1, x2, x3, x4, x5, x6, x7, x8, x9, x10, x11, x12, x13, x14, x15, x16, x17, x18, x19, x20, 136, 172] : List UInt8).length) c23 5 1 (by8 ([118, 169, 20, x1, x2, x3, x4, x5, x6, x7, x8, x9, x10, x11, x12, x13, x14, x15, x16, x17, x18, x19, x20, 136, 172] : List UInt8)), .row A39 23 c40 5 1 (by8 ([x0, x1, x2, x3, x4, x5, x6, x7, x8, x9, x10, x11, x12, x13, x14, x15, x16, x17, x18, x19, x20, x21, x22] : List UInt8)), .blk p44 [.int .i64 2, .int .u8 0, .int .u8 0, .int .u8 0, .int .u8 0, .int .u8 0, .int .u8 0, .int .u8 0, .int .u8 0, .int .u8 0, .int .u8 0, .int .u8 0, .int .u8 0, .int .u8 0, .int .u8 0, .int .u8 0, .int .u8 0, .int .u8 0, .int .u8 0, .int .u8 0, .int .u8 0, .slice A39 23 c40] 43, .row A53 ((106 :: UInt8.ofNat ([x0, x1, x2, x3, x4, x5, x6, x7, x8, x9, x10, x11, x12, x13, x14, x15, x16, x17, x18, x19, x20, x21, x22] : List UInt8).length :: ([x0, x1, x2, x3, x4, x5, x6, x7, x8, x9, x10, x11, x12, x13, x14, x15, x16, x17, x18, x19, x20, x21, x22] : List UInt8)).length) c54 5 1 (by8 (106 :: UInt8.ofNat ([x0, x1, x2, x3, x4, x5, x6, x7, x8, x9, x10, x11, x12, x13, x14, x15, x16, x17, x18, x19, x20, x21, x22] : List UInt8).length :: ([x0, x1, x2, x3, x4, x5, x6, x7, x8, x9, x10, x11, x12, x13, x14, x15, x16, x17, x18, x19, x20, x21, x22] : List UInt8)))] w60 := H55.callNil H62
  refine ⟨_, rfl, [2, 6, 44, 47], [(2, pt p3 0), (6, pt p44 0), (44, .bool true), (47, .bool ((106 :: UInt8.ofNat ([x0, x1, x2, x3, x4, x5, x6, x7, x8, x9, x10, x11, x12, x13, x14, x15, x16, x17, x18, x19, x20, x21, x22] : List UInt8).length :: ([x0, x1, x2, x3, x4, x5, x6, x7, x8, x9, x10, x11, x12, x13, x14, x15, x16, x17, x18, x19, x20, x21, x22] : List UInt8)) == ([106, 23, x0, x1, x2, x3, x4, x5, x6, x7, x8, x9, x10, x11, x12, x13, x14, x15, x16, x17, x18, x19, x20, x21, x22] : List UInt8)))], by kernel_rfl, ?_⟩
  refine GL.run (j := 7) 1 [2, 6, 48] [(2, pt p3 0), (6, pt p44 0), (48, .bool ((106 :: UInt8.ofNat ([x0, x1, x2, x3, x4, x5, x6, x7, x8, x9, x10, x11, x12, x13, x14, x15, x16, x17, x18, x19, x20, x21, x22] : List UInt8).length :: ([x0, x1, x2, x3, x4, x5, x6, x7, x8, x9, x10, x11, x12, x13, x14, x15, x16, x17, x18, x19, x20, x21, x22] : List UInt8)) == ([106, 23, x0, x1, x2, x3, x4, x5, x6, x7, x8, x9, x10, x11, x12, x13, x14, x15, x16, x17, x18, x19, x20, x21, x22] : List UInt8)))] (by kernel_rfl) rfl ?_
  refine GL.k rfl hK59 (fun _ _ h => h) ?_
  have hb63 : ((106 :: UInt8.ofNat ([x0, x1, x2, x3, x4, x5, x6, x7, x8, x9, x10, x11, x12, x13, x14, x15, x16, x17, x18, x19, x20, x21, x22] : List UInt8).length :: ([x0, x1, x2, x3, x4, x5, x6, x7, x8, x9, x10, x11, x12, x13, x14, x15, x16, x17, x18, x19, x20, x21, x22] : List UInt8)) == ([106, 23, x0, x1, x2, x3, x4, x5, x6, x7, x8, x9, x10, x11, x12, x13, x14, x15, x16, x17, x18, x19, x20, x21, x22] : List UInt8)) = true := by rw [beq_iff_eq]; rfl
  rw [hb63]
  refine G.yes rfl ?_
  refine G.seqK fun K64 hK65 => ?_
  refine G.region ?_
  refine GL.sem (j := 1) (H61.ldA (o := 0) (ty := 43) (m := 22) (sub := [.int .i64 2, .int .u8 0, .int .u8 0, .int .u8 0, .int .u8 0, .int .u8 0, .int .u8 0, .int .u8 0, .int .u8 0, .int .u8 0, .int .u8 0, .int .u8 0, .int .u8 0, .int .u8 0, .int .u8 0, .int .u8 0, .int .u8 0, .int .u8 0, .int .u8 0, .int .u8 0, .int .u8 0, .slice A39 23 c40]) 4 rfl (by kernel_rfl) rfl rfl) [2, 49] [(2, pt p3 0), (49, .agg #[.int .i64 2, .int .u8 0, .int .u8 0, .int .u8 0, .int .u8 0, .int .u8 0, .int .u8 0, .int .u8 0, .int .u8 0, .int .u8 0, .int .u8 0, .int .u8 0, .int .u8 0, .int .u8 0, .int .u8 0, .int .u8 0, .int .u8 0, .int .u8 0, .int .u8 0, .int .u8 0, .int .u8 0, .slice A39 23 c40])] (by kernel_rfl) (by kernel_rfl) rfl ?_
  obtain ⟨w66, r67, H68⟩ := H61.stA (P := Try.prog) (o := 0) (vs := [.int .i64 2, .int .u8 0, .int .u8 0, .int .u8 0, .int .u8 0, .int .u8 0, .int .u8 0, .int .u8 0, .int .u8 0, .int .u8 0, .int .u8 0, .int .u8 0, .int .u8 0, .int .u8 0, .int .u8 0, .int .u8 0, .int .u8 0, .int .u8 0, .int .u8 0, .int .u8 0, .int .u8 0, .slice A39 23 c40]) (ty := 43) (m := 22) 0 rfl (by kernel_rfl) rfl (by simp) (by simp [Value.oneCell'])
  have H68 : Hp w [] [.blk p3 [.int .i64 2, .int .u8 0, .int .u8 0, .int .u8 0, .int .u8 0, .int .u8 0, .int .u8 0, .int .u8 0, .int .u8 0, .int .u8 0, .int .u8 0, .int .u8 0, .int .u8 0, .int .u8 0, .int .u8 0, .int .u8 0, .int .u8 0, .int .u8 0, .int .u8 0, .int .u8 0, .int .u8 0, .slice A39 23 c40] 43, .blk p13 [.int .i64 1, .int .u8 (x1.toNat : Int), .int .u8 (x2.toNat : Int), .int .u8 (x3.toNat : Int), .int .u8 (x4.toNat : Int), .int .u8 (x5.toNat : Int), .int .u8 (x6.toNat : Int), .int .u8 (x7.toNat : Int), .int .u8 (x8.toNat : Int), .int .u8 (x9.toNat : Int), .int .u8 (x10.toNat : Int), .int .u8 (x11.toNat : Int), .int .u8 (x12.toNat : Int), .int .u8 (x13.toNat : Int), .int .u8 (x14.toNat : Int), .int .u8 (x15.toNat : Int), .int .u8 (x16.toNat : Int), .int .u8 (x17.toNat : Int), .int .u8 (x18.toNat : Int), .int .u8 (x19.toNat : Int), .int .u8 (x20.toNat : Int), .slice none 0 0] 43, .row A22 (([118, 169, 20, x1, x2, x3, x4, x5, x6, x7, x8, x9, x10, x11, x12, x13, x14, x15, x16, x17, x18, x19, x20, 136, 172] : List UInt8).length) c23 5 1 (by8 ([118, 169, 20, x1, x2, x3, x4, x5, x6, x7, x8, x9, x10, x11, x12, x13, x14, x15, x16, x17, x18, x19, x20, 136, 172] : List UInt8)), .row A39 23 c40 5 1 (by8 ([x0, x1, x2, x3, x4, x5, x6, x7, x8, x9, x10, x11, x12, x13, x14, x15, x16, x17, x18, x19, x20, x21, x22] : List UInt8)), .blk p44 [.int .i64 2, .int .u8 0, .int .u8 0, .int .u8 0, .int .u8 0, .int .u8 0, .int .u8 0, .int .u8 0, .int .u8 0, .int .u8 0, .int .u8 0, .int .u8 0, .int .u8 0, .int .u8 0, .int .u8 0, .int .u8 0, .int .u8 0, .int .u8 0, .int .u8 0, .int .u8 0, .int .u8 0, .slice A39 23 c40] 43, .row A53 ((106 :: UInt8.ofNat ([x0, x1, x2, x3, x4, x5, x6, x7, x8, x9, x10, x11, x12, x13, x14, x15, x16, x17, x18, x19, x20, x21, x22] : List UInt8).length :: ([x0, x1, x2, x3, x4, x5, x6, x7, x8, x9, x10, x11, x12, x13, x14, x15, x16, x17, x18, x19, x20, x21, x22] : List UInt8)).length) c54 5 1 (by8 (106 :: UInt8.ofNat ([x0, x1, x2, x3, x4, x5, x6, x7, x8, x9, x10, x11, x12, x13, x14, x15, x16, x17, x18, x19, x20, x21, x22] : List UInt8).length :: ([x0, x1, x2, x3, x4, x5, x6, x7, x8, x9, x10, x11, x12, x13, x14, x15, x16, x17, x18, x19, x20, x21, x22] : List UInt8)))] w66 := H68
  refine GL.semU (j := 2) r67 [2] [(2, pt p3 0)] (by kernel_rfl) rfl rfl rfl ?_
  refine GL.k rfl hK65 (fun _ _ h => h) ?_
  refine G.ret ?_
  intro F_ hF_ hM_
  refine hRet _ _ (bodyPost_1 rfl (RV.cell rfl (H68.ldA (o := 0) (ty := 43) (m := 22) (sub := [.int .i64 2, .int .u8 0, .int .u8 0, .int .u8 0, .int .u8 0, .int .u8 0, .int .u8 0, .int .u8 0, .int .u8 0, .int .u8 0, .int .u8 0, .int .u8 0, .int .u8 0, .int .u8 0, .int .u8 0, .int .u8 0, .int .u8 0, .int .u8 0, .int .u8 0, .int .u8 0, .int .u8 0, .slice A39 23 c40]) 0 rfl (by kernel_rfl) rfl rfl)) ?_ F_ hF_ hM_)
  exact ⟨_, _, rfl, H68.sub (by simp)⟩
theorem Parse_short (bs : List UInt8) (A : Option Addr) (c : Nat) (w : World) (hs : bs.length ≤ 2) : Calls Try.prog 11 #[.slice A bs.length c] w fun e w' => e = .returned (.agg #[.int .i64 0, .int .u8 0, .int .u8 0, .int .u8 0, .int .u8 0, .int .u8 0, .int .u8 0, .int .u8 0, .int .u8 0, .int .u8 0, .int .u8 0, .int .u8 0, .int .u8 0, .int .u8 0, .int .u8 0, .int .u8 0, .int .u8 0, .int .u8 0, .int .u8 0, .int .u8 0, .int .u8 0, .slice none 0 0]) ∧ Hp w [] [] w' := by
  refine calls_G (args := [.slice A bs.length c]) Try.func11 rfl Try.ntmps11 rfl ?_
  intro Q0 hRet hNor hPan
  have H := Hp.start w
  have H : Hp w [] [] w := H
  refine G.seqK fun K1 hK2 => ?_
  refine G.region ?_
  obtain ⟨p3, w4, r5, H6⟩ := H.alloc (P := Try.prog) 43 [.int .i64 0, .int .u8 0, .int .u8 0, .int .u8 0, .int .u8 0, .int .u8 0, .int .u8 0, .int .u8 0, .int .u8 0, .int .u8 0, .int .u8 0, .int .u8 0, .int .u8 0, .int .u8 0, .int .u8 0, .int .u8 0, .int .u8 0, .int .u8 0, .int .u8 0, .int .u8 0, .int .u8 0, .slice none 0 0] (by kernel_rfl)
  have H6 : Hp w [] [.blk p3 [.int .i64 0, .int .u8 0, .int .u8 0, .int .u8 0, .int .u8 0, .int .u8 0, .int .u8 0, .int .u8 0, .int .u8 0, .int .u8 0, .int .u8 0, .int .u8 0, .int .u8 0, .int .u8 0, .int .u8 0, .int .u8 0, .int .u8 0, .int .u8 0, .int .u8 0, .int .u8 0, .int .u8 0, .slice none 0 0] 43] w4 := H6
  refine GL.sem (j := 1) (r5) [0, 2] [(0, .slice A bs.length c), (2, pt p3 0)] (by kernel_rfl) (by kernel_rfl) rfl ?_
  refine GL.k rfl hK2 (fun _ _ h => h) ?_
  refine G.seqK fun K7 hK8 => ?_
  refine G.seqK fun K9 hK10 => ?_
  refine G.region ?_
  refine GL.run (j := 3) 3 [0, 2, 11] [(0, .slice A bs.length c), (2, pt p3 0), (11, .bool ((bs.length : Int) == 25))] (by kernel_rfl) rfl ?_
  refine GL.k rfl hK10 (fun _ _ h => h) ?_
  have hb11 : ((bs.length : Int) == 25) = false := beq_eq_false_iff_ne.2 (by omega)
  rw [hb11]
  refine G.no rfl ?_
  refine G.skipK hK8 (fun _ _ h => h) ?_
  refine G.seqK fun K12 hK13 => ?_
  refine G.seqK fun K14 hK15 => ?_
  refine G.region ?_
  refine GL.run (j := 3) 3 [0, 2, 32] [(0, .slice A bs.length c), (2, pt p3 0), (32, .bool (decide (2 < (bs.length : Int))))] (by kernel_rfl) rfl ?_
  refine GL.k rfl hK15 (fun _ _ h => h) ?_
  have hb16 : (decide (2 < (bs.length : Int))) = false := decide_eq_false (by omega)
  rw [hb16]
  refine G.no rfl ?_
  refine G.skipK hK13 (fun _ _ h => h) ?_
  refine G.seqK fun K17 hK18 => ?_
  refine G.region ?_
  refine GL.run (j := 1) 1 [2, 50] [(2, pt p3 0), (50, .agg #[.int .i64 0, .int .u8 0, .int .u8 0, .int .u8 0, .int .u8 0, .int .u8 0, .int .u8 0, .int .u8 0, .int .u8 0, .int .u8 0, .int .u8 0, .int .u8 0, .int .u8 0, .int .u8 0, .int .u8 0, .int .u8 0, .int .u8 0, .int .u8 0, .int .u8 0, .int .u8 0, .int .u8 0, .slice none 0 0])] (by kernel_rfl) rfl ?_
  obtain ⟨w19, r20, H21⟩ := H6.stA (P := Try.prog) (o := 0) (vs := [.int .i64 0, .int .u8 0, .int .u8 0, .int .u8 0, .int .u8 0, .int .u8 0, .int .u8 0, .int .u8 0, .int .u8 0, .int .u8 0, .int .u8 0, .int .u8 0, .int .u8 0, .int .u8 0, .int .u8 0, .int .u8 0, .int .u8 0, .int .u8 0, .int .u8 0, .int .u8 0, .int .u8 0, .slice none 0 0]) (ty := 43) (m := 22) 0 rfl (by kernel_rfl) rfl (by simp) (by simp [Value.oneCell'])
  have H21 : Hp w [] [.blk p3 [.int .i64 0, .int .u8 0, .int .u8 0, .int .u8 0, .int .u8 0, .int .u8 0, .int .u8 0, .int .u8 0, .int .u8 0, .int .u8 0, .int .u8 0, .int .u8 0, .int .u8 0, .int .u8 0, .int .u8 0, .int .u8 0, .int .u8 0, .int .u8 0, .int .u8 0, .int .u8 0, .int .u8 0, .slice none 0 0] 43] w19 := H21
  refine GL.semU (j := 2) r20 [2] [(2, pt p3 0)] (by kernel_rfl) rfl rfl rfl ?_
  refine GL.k rfl hK18 (fun _ _ h => h) ?_
  refine G.ret ?_
  intro F_ hF_ hM_
  refine hRet _ _ (bodyPost_1 rfl (RV.cell rfl (H21.ldA (o := 0) (ty := 43) (m := 22) (sub := [.int .i64 0, .int .u8 0, .int .u8 0, .int .u8 0, .int .u8 0, .int .u8 0, .int .u8 0, .int .u8 0, .int .u8 0, .int .u8 0, .int .u8 0, .int .u8 0, .int .u8 0, .int .u8 0, .int .u8 0, .int .u8 0, .int .u8 0, .int .u8 0, .int .u8 0, .int .u8 0, .int .u8 0, .slice none 0 0]) 0 rfl (by kernel_rfl) rfl rfl)) ?_ F_ hF_ hM_)
  exact ⟨rfl, H21.sub (List.nil_sublist _)⟩
theorem Parse_no3 (y0 y1 : UInt8) (t : List UInt8) (A : Option Addr) (c : Nat) (w : World) (hr : RdS w A (by8 (y0 :: y1 :: t))) (h1 : 1 ≤ t.length) (h40 : t.length ≤ 40) (h23 : t.length ≠ 23) (hc : t.length + 2 ≤ c) (hne : (106 :: UInt8.ofNat t.length :: t) ≠ (y0 :: y1 :: t)) : Calls Try.prog 11 #[.slice A ((y0 :: y1 :: t).length) c] w fun e w' => e = .returned (.agg #[.int .i64 0, .int .u8 0, .int .u8 0, .int .u8 0, .int .u8 0, .int .u8 0, .int .u8 0, .int .u8 0, .int .u8 0, .int .u8 0, .int .u8 0, .int .u8 0, .int .u8 0, .int .u8 0, .int .u8 0, .int .u8 0, .int .u8 0, .int .u8 0, .int .u8 0, .int .u8 0, .int .u8 0, .slice none 0 0]) ∧ Hp w [] [] w' := by
  refine calls_G (args := [.slice A ((y0 :: y1 :: t).length) c]) Try.func11 rfl Try.ntmps11 rfl ?_
  intro Q0 hRet hNor hPan
  have H := Hp.start w
  have H : Hp w [] [] w := H
  refine G.seqK fun K1 hK2 => ?_
  refine G.region ?_
  obtain ⟨p3, w4, r5, H6⟩ := H.alloc (P := Try.prog) 43 [.int .i64 0, .int .u8 0, .int .u8 0, .int .u8 0, .int .u8 0, .int .u8 0, .int .u8 0, .int .u8 0, .int .u8 0, .int .u8 0, .int .u8 0, .int .u8 0, .int .u8 0, .int .u8 0, .int .u8 0, .int .u8 0, .int .u8 0, .int .u8 0, .int .u8 0, .int .u8 0, .int .u8 0, .slice none 0 0] (by kernel_rfl)
  have H6 : Hp w [] [.blk p3 [.int .i64 0, .int .u8 0, .int .u8 0, .int .u8 0, .int .u8 0, .int .u8 0, .int .u8 0, .int .u8 0, .int .u8 0, .int .u8 0, .int .u8 0, .int .u8 0, .int .u8 0, .int .u8 0, .int .u8 0, .int .u8 0, .int .u8 0, .int .u8 0, .int .u8 0, .int .u8 0, .int .u8 0, .slice none 0 0] 43] w4 := H6
  refine GL.sem (j := 1) (r5) [0, 2] [(0, .slice A ((y0 :: y1 :: t).length) c), (2, pt p3 0)] (by kernel_rfl) (by kernel_rfl) rfl ?_
  refine GL.k rfl hK2 (fun _ _ h => h) ?_
  refine G.seqK fun K7 hK8 => ?_
  refine G.seqK fun K9 hK10 => ?_
  refine G.region ?_
  refine GL.run (j := 3) 3 [0, 2, 11] [(0, .slice A ((y0 :: y1 :: t).length) c), (2, pt p3 0), (11, .bool ((((y0 :: y1 :: t).length : Nat) : Int) == 25))] (by kernel_rfl) rfl ?_
  refine GL.k rfl hK10 (fun _ _ h => h) ?_
  have hb11 : ((((y0 :: y1 :: t).length : Nat) : Int) == 25) = false := beq_eq_false_iff_ne.2 (by simp; omega)
  rw [hb11]
  refine G.no rfl ?_
  refine G.skipK hK8 (fun _ _ h => h) ?_
  refine G.seqK fun K12 hK13 => ?_
  refine G.seqK fun K14 hK15 => ?_
  refine G.region ?_
  refine GL.run (j := 3) 3 [0, 2, 32] [(0, .slice A ((y0 :: y1 :: t).length) c), (2, pt p3 0), (32, .bool (decide (2 < (((y0 :: y1 :: t).length : Nat) : Int))))] (by kernel_rfl) rfl ?_
  refine GL.k rfl hK15 (fun _ _ h => h) ?_
  have hb16 : (decide (2 < (((y0 :: y1 :: t).length : Nat) : Int))) = true := decide_eq_true (by simp; omega)
  rw [hb16]
  refine G.yes rfl ?_
  refine G.seqK fun K17 hK18 => ?_
  refine G.region ?_
  refine GL.run (j := 1) 1 [0, 2, 33] [(0, .slice A ((y0 :: y1 :: t).length) c), (2, pt p3 0), (33, .slice A ((y0 :: y1 :: t).length) c)] (by kernel_rfl) rfl ?_
  refine GL.sem (j := 2) (run_sliceSl (P := Try.prog) (lo := some (.int .i64 2)) (hi := none) (t := 38) (len := (y0 :: y1 :: t).length) (cap := c) (A := A) (l := 2) (h := (y0 :: y1 :: t).length) (by kernel_rfl) (Or.inr ⟨_, _, rfl, rfl⟩) (Or.inl ⟨rfl, rfl⟩) (by first | rfl | omega | (simp only [List.length_cons, List.length_nil, List.length_drop, List.length_take, List.length_append] <;> omega)) (by first | rfl | omega | (simp only [List.length_cons, List.length_nil, List.length_drop, List.length_take, List.length_append] <;> omega))) [0, 2, 34] [(0, .slice A ((y0 :: y1 :: t).length) c), (2, pt p3 0), (34, .slice (if c = 2 then A else Option.map (fun x => Addr.add x 2) A) t.length (c - 2))] (by kernel_rfl) (by kernel_rfl) rfl ?_
  refine GL.call (j := 3) (SClone_calls t (if c = 2 then A else Option.map (fun x => Addr.add x 2) A) (c - 2) w4 (RdS.drop8 (cap := c) (hr.hp H6) 2 (cs := t) (by first | rfl | omega | (simp only [List.length_cons, List.length_nil, List.length_drop, List.length_take, List.length_append] <;> omega)) rfl) (isNone_drop hr (by first | rfl | omega | (simp only [List.length_cons, List.length_nil, List.length_drop, List.length_take, List.length_append] <;> omega)) (by first | rfl | omega | (simp only [List.length_cons, List.length_nil, List.length_drop, List.length_take, List.length_append] <;> omega))) (by first | rfl | omega | (simp only [List.length_cons, List.length_nil, List.length_drop, List.length_take, List.length_append] <;> omega))) (by kernel_rfl) rfl (fun e_ w23 hR => ?_)
  obtain ⟨A19, c20, rfl, H22⟩ := hR
  have H21 : Hp w [] [.blk p3 [.int .i64 0, .int .u8 0, .int .u8 0, .int .u8 0, .int .u8 0, .int .u8 0, .int .u8 0, .int .u8 0, .int .u8 0, .int .u8 0, .int .u8 0, .int .u8 0, .int .u8 0, .int .u8 0, .int .u8 0, .int .u8 0, .int .u8 0, .int .u8 0, .int .u8 0, .int .u8 0, .int .u8 0, .slice none 0 0] 43, .row A19 t.length c20 5 1 (by8 t)] w23 := H6.callNew H22
  refine ⟨_, rfl, [0, 2, 35], [(0, .slice A ((y0 :: y1 :: t).length) c), (2, pt p3 0), (35, .slice A19 t.length c20)], by kernel_rfl, ?_⟩
  refine GL.run (j := 4) 1 [0, 2, 36] [(0, .slice A ((y0 :: y1 :: t).length) c), (2, pt p3 0), (36, .agg #[.int .i64 2, .int .u8 0, .int .u8 0, .int .u8 0, .int .u8 0, .int .u8 0, .int .u8 0, .int .u8 0, .int .u8 0, .int .u8 0, .int .u8 0, .int .u8 0, .int .u8 0, .int .u8 0, .int .u8 0, .int .u8 0, .int .u8 0, .int .u8 0, .int .u8 0, .int .u8 0, .int .u8 0, .slice A19 t.length c20])] (by kernel_rfl) rfl ?_
  obtain ⟨p24, w25, r26, H27⟩ := H21.alloc (P := Try.prog) 43 [.int .i64 0, .int .u8 0, .int .u8 0, .int .u8 0, .int .u8 0, .int .u8 0, .int .u8 0, .int .u8 0, .int .u8 0, .int .u8 0, .int .u8 0, .int .u8 0, .int .u8 0, .int .u8 0, .int .u8 0, .int .u8 0, .int .u8 0, .int .u8 0, .int .u8 0, .int .u8 0, .int .u8 0, .slice none 0 0] (by kernel_rfl)
  have H27 : Hp w [] [.blk p3 [.int .i64 0, .int .u8 0, .int .u8 0, .int .u8 0, .int .u8 0, .int .u8 0, .int .u8 0, .int .u8 0, .int .u8 0, .int .u8 0, .int .u8 0, .int .u8 0, .int .u8 0, .int .u8 0, .int .u8 0, .int .u8 0, .int .u8 0, .int .u8 0, .int .u8 0, .int .u8 0, .int .u8 0, .slice none 0 0] 43, .row A19 t.length c20 5 1 (by8 t), .blk p24 [.int .i64 0, .int .u8 0, .int .u8 0, .int .u8 0, .int .u8 0, .int .u8 0, .int .u8 0, .int .u8 0, .int .u8 0, .int .u8 0, .int .u8 0, .int .u8 0, .int .u8 0, .int .u8 0, .int .u8 0, .int .u8 0, .int .u8 0, .int .u8 0, .int .u8 0, .int .u8 0, .int .u8 0, .slice none 0 0] 43] w25 := H27
  refine GL.sem (j := 5) (r26) [0, 2, 6, 36] [(0, .slice A ((y0 :: y1 :: t).length) c), (2, pt p3 0), (6, pt p24 0), (36, .agg #[.int .i64 2, .int .u8 0, .int .u8 0, .int .u8 0, .int .u8 0, .int .u8 0, .int .u8 0, .int .u8 0, .int .u8 0, .int .u8 0, .int .u8 0, .int .u8 0, .int .u8 0, .int .u8 0, .int .u8 0, .int .u8 0, .int .u8 0, .int .u8 0, .int .u8 0, .int .u8 0, .int .u8 0, .slice A19 t.length c20])] (by kernel_rfl) (by kernel_rfl) rfl ?_
  obtain ⟨w28, r29, H30⟩ := H27.stA (P := Try.prog) (o := 0) (vs := [.int .i64 2, .int .u8 0, .int .u8 0, .int .u8 0, .int .u8 0, .int .u8 0, .int .u8 0, .int .u8 0, .int .u8 0, .int .u8 0, .int .u8 0, .int .u8 0, .int .u8 0, .int .u8 0, .int .u8 0, .int .u8 0, .int .u8 0, .int .u8 0, .int .u8 0, .int .u8 0, .int .u8 0, .slice A19 t.length c20]) (ty := 43) (m := 22) 2 rfl (by kernel_rfl) rfl (by simp) (by simp [Value.oneCell'])
  have H30 : Hp w [] [.blk p3 [.int .i64 0, .int .u8 0, .int .u8 0, .int .u8 0, .int .u8 0, .int .u8 0, .int .u8 0, .int .u8 0, .int .u8 0, .int .u8 0, .int .u8 0, .int .u8 0, .int .u8 0, .int .u8 0, .int .u8 0, .int .u8 0, .int .u8 0, .int .u8 0, .int .u8 0, .int .u8 0, .int .u8 0, .slice none 0 0] 43, .row A19 t.length c20 5 1 (by8 t), .blk p24 [.int .i64 2, .int .u8 0, .int .u8 0, .int .u8 0, .int .u8 0, .int .u8 0, .int .u8 0, .int .u8 0, .int .u8 0, .int .u8 0, .int .u8 0, .int .u8 0, .int .u8 0, .int .u8 0, .int .u8 0, .int .u8 0, .int .u8 0, .int .u8 0, .int .u8 0, .int .u8 0, .int .u8 0, .slice A19 t.length c20] 43] w28 := H30
  refine GL.semU (j := 6) r29 [0, 2, 6] [(0, .slice A ((y0 :: y1 :: t).length) c), (2, pt p3 0), (6, pt p24 0)] (by kernel_rfl) rfl rfl rfl ?_
  refine GL.k rfl hK18 (fun _ _ h => h) ?_
  refine G.seqK fun K31 hK32 => ?_
  refine G.region ?_
  refine GL.sem (j := 1) (H30.ldA (o := 0) (ty := 43) (m := 22) (sub := [.int .i64 2, .int .u8 0, .int .u8 0, .int .u8 0, .int .u8 0, .int .u8 0, .int .u8 0, .int .u8 0, .int .u8 0, .int .u8 0, .int .u8 0, .int .u8 0, .int .u8 0, .int .u8 0, .int .u8 0, .int .u8 0, .int .u8 0, .int .u8 0, .int .u8 0, .int .u8 0, .int .u8 0, .slice A19 t.length c20]) 2 rfl (by kernel_rfl) rfl rfl) [0, 2, 6, 38] [(0, .slice A ((y0 :: y1 :: t).length) c), (2, pt p3 0), (6, pt p24 0), (38, .agg #[.int .i64 2, .int .u8 0, .int .u8 0, .int .u8 0, .int .u8 0, .int .u8 0, .int .u8 0, .int .u8 0, .int .u8 0, .int .u8 0, .int .u8 0, .int .u8 0, .int .u8 0, .int .u8 0, .int .u8 0, .int .u8 0, .int .u8 0, .int .u8 0, .int .u8 0, .int .u8 0, .int .u8 0, .slice A19 t.length c20])] (by kernel_rfl) (by kernel_rfl) rfl ?_
  refine GL.call (j := 2) (Bytes_tag (0 : UInt8) (0 : UInt8) (0 : UInt8) (0 : UInt8) (0 : UInt8) (0 : UInt8) (0 : UInt8) (0 : UInt8) (0 : UInt8) (0 : UInt8) (0 : UInt8) (0 : UInt8) (0 : UInt8) (0 : UInt8) (0 : UInt8) (0 : UInt8) (0 : UInt8) (0 : UInt8) (0 : UInt8) (0 : UInt8) t A19 c20 w28 (H30.rdRow 1 rfl) (by omega) (by omega)) (by kernel_rfl) rfl (fun e_ w37 hR => ?_)
  obtain ⟨A33, c34, rfl, H36⟩ := hR
  have H35 : Hp w [] [.blk p3 [.int .i64 0, .int .u8 0, .int .u8 0, .int .u8 0, .int .u8 0, .int .u8 0, .int .u8 0, .int .u8 0, .int .u8 0, .int .u8 0, .int .u8 0, .int .u8 0, .int .u8 0, .int .u8 0, .int .u8 0, .int .u8 0, .int .u8 0, .int .u8 0, .int .u8 0, .int .u8 0, .int .u8 0, .slice none 0 0] 43, .row A19 t.length c20 5 1 (by8 t), .blk p24 [.int .i64 2, .int .u8 0, .int .u8 0, .int .u8 0, .int .u8 0, .int .u8 0, .int .u8 0, .int .u8 0, .int .u8 0, .int .u8 0, .int .u8 0, .int .u8 0, .int .u8 0, .int .u8 0, .int .u8 0, .int .u8 0, .int .u8 0, .int .u8 0, .int .u8 0, .int .u8 0, .int .u8 0, .slice A19 t.length c20] 43, .row A33 ((106 :: UInt8.ofNat t.length :: t).length) c34 5 1 (by8 (106 :: UInt8.ofNat t.length :: t))] w37 := H30.callNew H36
  refine ⟨_, rfl, [0, 2, 6, 39], [(0, .slice A ((y0 :: y1 :: t).length) c), (2, pt p3 0), (6, pt p24 0), (39, .tuple #[.slice A33 ((106 :: UInt8.ofNat t.length :: t).length) c34, .int .i64 0])], by kernel_rfl, ?_⟩
  refine GL.run (j := 7) 5 [0, 2, 6, 7, 8] [(0, .slice A ((y0 :: y1 :: t).length) c), (2, pt p3 0), (6, pt p24 0), (7, .slice A33 ((106 :: UInt8.ofNat t.length :: t).length) c34), (8, .int .i64 0)] (by kernel_rfl) rfl ?_
  refine GL.k rfl hK32 (fun _ _ h => h) ?_
  refine G.seqK fun K38 hK39 => ?_
  refine G.region ?_
  refine GL.run (j := 5) 5 [2, 6, 44, 45, 46] [(2, pt p3 0), (6, pt p24 0), (44, .bool true), (45, .slice A33 ((106 :: UInt8.ofNat t.length :: t).length) c34), (46, .slice A ((y0 :: y1 :: t).length) c)] (by kernel_rfl) rfl ?_
  refine GL.call (j := 6) (Equal_calls (106 :: UInt8.ofNat t.length :: t) (y0 :: y1 :: t) A33 A c34 c w37 (H35.rdRow 3 rfl) (hr.hp H35)) (by kernel_rfl) rfl (fun e_ w40 hR => ?_)
  obtain ⟨rfl, H42⟩ := hR
  have H41 : Hp w [] [.blk p3 [.int .i64 0, .int .u8 0, .int .u8 0, .int .u8 0, .int .u8 0, .int .u8 0, .int .u8 0, .int .u8 0, .int .u8 0, .int .u8 0, .int .u8 0, .int .u8 0, .int .u8 0, .int .u8 0, .int .u8 0, .int .u8 0, .int .u8 0, .int .u8 0, .int .u8 0, .int .u8 0, .int .u8 0, .slice none 0 0] 43, .row A19 t.length c20 5 1 (by8 t), .blk p24 [.int .i64 2, .int .u8 0, .int .u8 0, .int .u8 0, .int .u8 0, .int .u8 0, .int .u8 0, .int .u8 0, .int .u8 0, .int .u8 0, .int .u8 0, .int .u8 0, .int .u8 0, .int .u8 0, .int .u8 0, .int .u8 0, .int .u8 0, .int .u8 0, .int .u8 0, .int .u8 0, .int .u8 0, .slice A19 t.length c20] 43, .row A33 ((106 :: UInt8.ofNat t.length :: t).length) c34 5 1 (by8 (106 :: UInt8.ofNat t.length :: t))] w40 := H35.callNil H42
  refine ⟨_, rfl, [2, 6, 44, 47], [(2, pt p3 0), (6, pt p24 0), (44, .bool true), (47, .bool ((106 :: UInt8.ofNat t.length :: t) == (y0 :: y1 :: t)))], by kernel_rfl, ?_⟩
  refine GL.run (j := 7) 1 [2, 6, 48] [(2, pt p3 0), (6, pt p24 0), (48, .bool ((106 :: UInt8.ofNat t.length :: t) == (y0 :: y1 :: t)))] (by kernel_rfl) rfl ?_
  refine GL.k rfl hK39 (fun _ _ h => h) ?_
  have hb43 : ((106 :: UInt8.ofNat t.length :: t) == (y0 :: y1 :: t)) = false := beq_eq_false_iff_ne.2 hne
  rw [hb43]
  refine G.no rfl ?_
  refine G.skipK hK13 (fun _ _ h => h) ?_
  refine G.seqK fun K44 hK45 => ?_
  refine G.region ?_
  refine GL.run (j := 1) 1 [2, 50] [(2, pt p3 0), (50, .agg #[.int .i64 0, .int .u8 0, .int .u8 0, .int .u8 0, .int .u8 0, .int .u8 0, .int .u8 0, .int .u8 0, .int .u8 0, .int .u8 0, .int .u8 0, .int .u8 0, .int .u8 0, .int .u8 0, .int .u8 0, .int .u8 0, .int .u8 0, .int .u8 0, .int .u8 0, .int .u8 0, .int .u8 0, .slice none 0 0])] (by kernel_rfl) rfl ?_
  obtain ⟨w46, r47, H48⟩ := H41.stA (P := Try.prog) (o := 0) (vs := [.int .i64 0, .int .u8 0, .int .u8 0, .int .u8 0, .int .u8 0, .int .u8 0, .int .u8 0, .int .u8 0, .int .u8 0, .int .u8 0, .int .u8 0, .int .u8 0, .int .u8 0, .int .u8 0, .int .u8 0, .int .u8 0, .int .u8 0, .int .u8 0, .int .u8 0, .int .u8 0, .int .u8 0, .slice none 0 0]) (ty := 43) (m := 22) 0 rfl (by kernel_rfl) rfl (by simp) (by simp [Value.oneCell'])
  have H48 : Hp w [] [.blk p3 [.int .i64 0, .int .u8 0, .int .u8 0, .int .u8 0, .int .u8 0, .int .u8 0, .int .u8 0, .int .u8 0, .int .u8 0, .int .u8 0, .int .u8 0, .int .u8 0, .int .u8 0, .int .u8 0, .int .u8 0, .int .u8 0, .int .u8 0, .int .u8 0, .int .u8 0, .int .u8 0, .int .u8 0, .slice none 0 0] 43, .row A19 t.length c20 5 1 (by8 t), .blk p24 [.int .i64 2, .int .u8 0, .int .u8 0, .int .u8 0, .int .u8 0, .int .u8 0, .int .u8 0, .int .u8 0, .int .u8 0, .int .u8 0, .int .u8 0, .int .u8 0, .int .u8 0, .int .u8 0, .int .u8 0, .int .u8 0, .int .u8 0, .int .u8 0, .int .u8 0, .int .u8 0, .int .u8 0, .slice A19 t.length c20] 43, .row A33 ((106 :: UInt8.ofNat t.length :: t).length) c34 5 1 (by8 (106 :: UInt8.ofNat t.length :: t))] w46 := H48
  refine GL.semU (j := 2) r47 [2] [(2, pt p3 0)] (by kernel_rfl) rfl rfl rfl ?_
  refine GL.k rfl hK45 (fun _ _ h => h) ?_
  refine G.ret ?_
  intro F_ hF_ hM_
  refine hRet _ _ (bodyPost_1 rfl (RV.cell rfl (H48.ldA (o := 0) (ty := 43) (m := 22) (sub := [.int .i64 0, .int .u8 0, .int .u8 0, .int .u8 0, .int .u8 0, .int .u8 0, .int .u8 0, .int .u8 0, .int .u8 0, .int .u8 0, .int .u8 0, .int .u8 0, .int .u8 0, .int .u8 0, .int .u8 0, .int .u8 0, .int .u8 0, .int .u8 0, .int .u8 0, .int .u8 0, .int .u8 0, .slice none 0 0]) 0 rfl (by kernel_rfl) rfl rfl)) ?_ F_ hF_ hM_)
  exact ⟨rfl, H48.sub (List.nil_sublist _)⟩
theorem Parse_no41 (y0 y1 : UInt8) (t : List UInt8) (A : Option Addr) (c : Nat) (w : World) (hr : RdS w A (by8 (y0 :: y1 :: t))) (h1 : 40 < t.length) (hl : t.length ≤ 1099511627776) (hc : t.length + 2 ≤ c) : Calls Try.prog 11 #[.slice A ((y0 :: y1 :: t).length) c] w fun e w' => e = .returned (.agg #[.int .i64 0, .int .u8 0, .int .u8 0, .int .u8 0, .int .u8 0, .int .u8 0, .int .u8 0, .int .u8 0, .int .u8 0, .int .u8 0, .int .u8 0, .int .u8 0, .int .u8 0, .int .u8 0, .int .u8 0, .int .u8 0, .int .u8 0, .int .u8 0, .int .u8 0, .int .u8 0, .int .u8 0, .slice none 0 0]) ∧ Hp w [] [] w' := by
  refine calls_G (args := [.slice A ((y0 :: y1 :: t).length) c]) Try.func11 rfl Try.ntmps11 rfl ?_
  intro Q0 hRet hNor hPan
  have H := Hp.start w
  have H : Hp w [] [] w := H
  refine G.seqK fun K1 hK2 => ?_
  refine G.region ?_
  obtain ⟨p3, w4, r5, H6⟩ := H.alloc (P := Try.prog) 43 [.int .i64 0, .int .u8 0, .int .u8 0, .int .u8 0, .int .u8 0, .int .u8 0, .int .u8 0, .int .u8 0, .int .u8 0, .int .u8 0, .int .u8 0, .int .u8 0, .int .u8 0, .int .u8 0, .int .u8 0, .int .u8 0, .int .u8 0, .int .u8 0, .int .u8 0, .int .u8 0, .int .u8 0, .slice none 0 0] (by kernel_rfl)
  have H6 : Hp w [] [.blk p3 [.int .i64 0, .int .u8 0, .int .u8 0, .int .u8 0, .int .u8 0, .int .u8 0, .int .u8 0, .int .u8 0, .int .u8 0, .int .u8 0, .int .u8 0, .int .u8 0, .int .u8 0, .int .u8 0, .int .u8 0, .int .u8 0, .int .u8 0, .int .u8 0, .int .u8 0, .int .u8 0, .int .u8 0, .slice none 0 0] 43] w4 := H6
  refine GL.sem (j := 1) (r5) [0, 2] [(0, .slice A ((y0 :: y1 :: t).length) c), (2, pt p3 0)] (by kernel_rfl) (by kernel_rfl) rfl ?_
  refine GL.k rfl hK2 (fun _ _ h => h) ?_
  refine G.seqK fun K7 hK8 => ?_
  refine G.seqK fun K9 hK10 => ?_
  refine G.region ?_
  refine GL.run (j := 3) 3 [0, 2, 11] [(0, .slice A ((y0 :: y1 :: t).length) c), (2, pt p3 0), (11, .bool ((((y0 :: y1 :: t).length : Nat) : Int) == 25))] (by kernel_rfl) rfl ?_
  refine GL.k rfl hK10 (fun _ _ h => h) ?_
  have hb11 : ((((y0 :: y1 :: t).length : Nat) : Int) == 25) = false := beq_eq_false_iff_ne.2 (by simp; omega)
  rw [hb11]
  refine G.no rfl ?_
  refine G.skipK hK8 (fun _ _ h => h) ?_
  refine G.seqK fun K12 hK13 => ?_
  refine G.seqK fun K14 hK15 => ?_
  refine G.region ?_
  refine GL.run (j := 3) 3 [0, 2, 32] [(0, .slice A ((y0 :: y1 :: t).length) c), (2, pt p3 0), (32, .bool (decide (2 < (((y0 :: y1 :: t).length : Nat) : Int))))] (by kernel_rfl) rfl ?_
  refine GL.k rfl hK15 (fun _ _ h => h) ?_
  have hb16 : (decide (2 < (((y0 :: y1 :: t).length : Nat) : Int))) = true := decide_eq_true (by simp; omega)
  rw [hb16]
  refine G.yes rfl ?_
  refine G.seqK fun K17 hK18 => ?_
  refine G.region ?_
  refine GL.run (j := 1) 1 [0, 2, 33] [(0, .slice A ((y0 :: y1 :: t).length) c), (2, pt p3 0), (33, .slice A ((y0 :: y1 :: t).length) c)] (by kernel_rfl) rfl ?_
  refine GL.sem (j := 2) (run_sliceSl (P := Try.prog) (lo := some (.int .i64 2)) (hi := none) (t := 38) (len := (y0 :: y1 :: t).length) (cap := c) (A := A) (l := 2) (h := (y0 :: y1 :: t).length) (by kernel_rfl) (Or.inr ⟨_, _, rfl, rfl⟩) (Or.inl ⟨rfl, rfl⟩) (by first | rfl | omega | (simp only [List.length_cons, List.length_nil, List.length_drop, List.length_take, List.length_append] <;> omega)) (by first | rfl | omega | (simp only [List.length_cons, List.length_nil, List.length_drop, List.length_take, List.length_append] <;> omega))) [0, 2, 34] [(0, .slice A ((y0 :: y1 :: t).length) c), (2, pt p3 0), (34, .slice (if c = 2 then A else Option.map (fun x => Addr.add x 2) A) t.length (c - 2))] (by kernel_rfl) (by kernel_rfl) rfl ?_
  refine GL.call (j := 3) (SClone_calls t (if c = 2 then A else Option.map (fun x => Addr.add x 2) A) (c - 2) w4 (RdS.drop8 (cap := c) (hr.hp H6) 2 (cs := t) (by first | rfl | omega | (simp only [List.length_cons, List.length_nil, List.length_drop, List.length_take, List.length_append] <;> omega)) rfl) (isNone_drop hr (by first | rfl | omega | (simp only [List.length_cons, List.length_nil, List.length_drop, List.length_take, List.length_append] <;> omega)) (by first | rfl | omega | (simp only [List.length_cons, List.length_nil, List.length_drop, List.length_take, List.length_append] <;> omega))) (by first | rfl | omega | (simp only [List.length_cons, List.length_nil, List.length_drop, List.length_take, List.length_append] <;> omega))) (by kernel_rfl) rfl (fun e_ w23 hR => ?_)
  obtain ⟨A19, c20, rfl, H22⟩ := hR
  have H21 : Hp w [] [.blk p3 [.int .i64 0, .int .u8 0, .int .u8 0, .int .u8 0, .int .u8 0, .int .u8 0, .int .u8 0, .int .u8 0, .int .u8 0, .int .u8 0, .int .u8 0, .int .u8 0, .int .u8 0, .int .u8 0, .int .u8 0, .int .u8 0, .int .u8 0, .int .u8 0, .int .u8 0, .int .u8 0, .int .u8 0, .slice none 0 0] 43, .row A19 t.length c20 5 1 (by8 t)] w23 := H6.callNew H22
  refine ⟨_, rfl, [0, 2, 35], [(0, .slice A ((y0 :: y1 :: t).length) c), (2, pt p3 0), (35, .slice A19 t.length c20)], by kernel_rfl, ?_⟩
  refine GL.run (j := 4) 1 [0, 2, 36] [(0, .slice A ((y0 :: y1 :: t).length) c), (2, pt p3 0), (36, .agg #[.int .i64 2, .int .u8 0, .int .u8 0, .int .u8 0, .int .u8 0, .int .u8 0, .int .u8 0, .int .u8 0, .int .u8 0, .int .u8 0, .int .u8 0, .int .u8 0, .int .u8 0, .int .u8 0, .int .u8 0, .int .u8 0, .int .u8 0, .int .u8 0, .int .u8 0, .int .u8 0, .int .u8 0, .slice A19 t.length c20])] (by kernel_rfl) rfl ?_
  obtain ⟨p24, w25, r26, H27⟩ := H21.alloc (P := Try.prog) 43 [.int .i64 0, .int .u8 0, .int .u8 0, .int .u8 0, .int .u8 0, .int .u8 0, .int .u8 0, .int .u8 0, .int .u8 0, .int .u8 0, .int .u8 0, .int .u8 0, .int .u8 0, .int .u8 0, .int .u8 0, .int .u8 0, .int .u8 0, .int .u8 0, .int .u8 0, .int .u8 0, .int .u8 0, .slice none 0 0] (by kernel_rfl)
  have H27 : Hp w [] [.blk p3 [.int .i64 0, .int .u8 0, .int .u8 0, .int .u8 0, .int .u8 0, .int .u8 0, .int .u8 0, .int .u8 0, .int .u8 0, .int .u8 0, .int .u8 0, .int .u8 0, .int .u8 0, .int .u8 0, .int .u8 0, .int .u8 0, .int .u8 0, .int .u8 0, .int .u8 0, .int .u8 0, .int .u8 0, .slice none 0 0] 43, .row A19 t.length c20 5 1 (by8 t), .blk p24 [.int .i64 0, .int .u8 0, .int .u8 0, .int .u8 0, .int .u8 0, .int .u8 0, .int .u8 0, .int .u8 0, .int .u8 0, .int .u8 0, .int .u8 0, .int .u8 0, .int .u8 0, .int .u8 0, .int .u8 0, .int .u8 0, .int .u8 0, .int .u8 0, .int .u8 0, .int .u8 0, .int .u8 0, .slice none 0 0] 43] w25 := H27
  refine GL.sem (j := 5) (r26) [0, 2, 6, 36] [(0, .slice A ((y0 :: y1 :: t).length) c), (2, pt p3 0), (6, pt p24 0), (36, .agg #[.int .i64 2, .int .u8 0, .int .u8 0, .int .u8 0, .int .u8 0, .int .u8 0, .int .u8 0, .int .u8 0, .int .u8 0, .int .u8 0, .int .u8 0, .int .u8 0, .int .u8 0, .int .u8 0, .int .u8 0, .int .u8 0, .int .u8 0, .int .u8 0, .int .u8 0, .int .u8 0, .int .u8 0, .slice A19 t.length c20])] (by kernel_rfl) (by kernel_rfl) rfl ?_
  obtain ⟨w28, r29, H30⟩ := H27.stA (P := Try.prog) (o := 0) (vs := [.int .i64 2, .int .u8 0, .int .u8 0, .int .u8 0, .int .u8 0, .int .u8 0, .int .u8 0, .int .u8 0, .int .u8 0, .int .u8 0, .int .u8 0, .int .u8 0, .int .u8 0, .int .u8 0, .int .u8 0, .int .u8 0, .int .u8 0, .int .u8 0, .int .u8 0, .int .u8 0, .int .u8 0, .slice A19 t.length c20]) (ty := 43) (m := 22) 2 rfl (by kernel_rfl) rfl (by simp) (by simp [Value.oneCell'])
  have H30 : Hp w [] [.blk p3 [.int .i64 0, .int .u8 0, .int .u8 0, .int .u8 0, .int .u8 0, .int .u8 0, .int .u8 0, .int .u8 0, .int .u8 0, .int .u8 0, .int .u8 0, .int .u8 0, .int .u8 0, .int .u8 0, .int .u8 0, .int .u8 0, .int .u8 0, .int .u8 0, .int .u8 0, .int .u8 0, .int .u8 0, .slice none 0 0] 43, .row A19 t.length c20 5 1 (by8 t), .blk p24 [.int .i64 2, .int .u8 0, .int .u8 0, .int .u8 0, .int .u8 0, .int .u8 0, .int .u8 0, .int .u8 0, .int .u8 0, .int .u8 0, .int .u8 0, .int .u8 0, .int .u8 0, .int .u8 0, .int .u8 0, .int .u8 0, .int .u8 0, .int .u8 0, .int .u8 0, .int .u8 0, .int .u8 0, .slice A19 t.length c20] 43] w28 := H30
  refine GL.semU (j := 6) r29 [0, 2, 6] [(0, .slice A ((y0 :: y1 :: t).length) c), (2, pt p3 0), (6, pt p24 0)] (by kernel_rfl) rfl rfl rfl ?_
  refine GL.k rfl hK18 (fun _ _ h => h) ?_
  refine G.seqK fun K31 hK32 => ?_
  refine G.region ?_
  refine GL.sem (j := 1) (H30.ldA (o := 0) (ty := 43) (m := 22) (sub := [.int .i64 2, .int .u8 0, .int .u8 0, .int .u8 0, .int .u8 0, .int .u8 0, .int .u8 0, .int .u8 0, .int .u8 0, .int .u8 0, .int .u8 0, .int .u8 0, .int .u8 0, .int .u8 0, .int .u8 0, .int .u8 0, .int .u8 0, .int .u8 0, .int .u8 0, .int .u8 0, .int .u8 0, .slice A19 t.length c20]) 2 rfl (by kernel_rfl) rfl rfl) [0, 2, 6, 38] [(0, .slice A ((y0 :: y1 :: t).length) c), (2, pt p3 0), (6, pt p24 0), (38, .agg #[.int .i64 2, .int .u8 0, .int .u8 0, .int .u8 0, .int .u8 0, .int .u8 0, .int .u8 0, .int .u8 0, .int .u8 0, .int .u8 0, .int .u8 0, .int .u8 0, .int .u8 0, .int .u8 0, .int .u8 0, .int .u8 0, .int .u8 0, .int .u8 0, .int .u8 0, .int .u8 0, .int .u8 0, .slice A19 t.length c20])] (by kernel_rfl) (by kernel_rfl) rfl ?_
  refine GL.call (j := 2) (Bytes_long (0 : UInt8) (0 : UInt8) (0 : UInt8) (0 : UInt8) (0 : UInt8) (0 : UInt8) (0 : UInt8) (0 : UInt8) (0 : UInt8) (0 : UInt8) (0 : UInt8) (0 : UInt8) (0 : UInt8) (0 : UInt8) (0 : UInt8) (0 : UInt8) (0 : UInt8) (0 : UInt8) (0 : UInt8) (0 : UInt8) A19 t.length c20 w28 (by omega)) (by kernel_rfl) rfl (fun e_ w37 hR => ?_)
  obtain ⟨rfl, H36⟩ := hR
  have H35 : Hp w [] [.blk p3 [.int .i64 0, .int .u8 0, .int .u8 0, .int .u8 0, .int .u8 0, .int .u8 0, .int .u8 0, .int .u8 0, .int .u8 0, .int .u8 0, .int .u8 0, .int .u8 0, .int .u8 0, .int .u8 0, .int .u8 0, .int .u8 0, .int .u8 0, .int .u8 0, .int .u8 0, .int .u8 0, .int .u8 0, .slice none 0 0] 43, .row A19 t.length c20 5 1 (by8 t), .blk p24 [.int .i64 2, .int .u8 0, .int .u8 0, .int .u8 0, .int .u8 0, .int .u8 0, .int .u8 0, .int .u8 0, .int .u8 0, .int .u8 0, .int .u8 0, .int .u8 0, .int .u8 0, .int .u8 0, .int .u8 0, .int .u8 0, .int .u8 0, .int .u8 0, .int .u8 0, .int .u8 0, .int .u8 0, .slice A19 t.length c20] 43] w37 := H30.callNil H36
  refine ⟨_, rfl, [0, 2, 6, 39], [(0, .slice A ((y0 :: y1 :: t).length) c), (2, pt p3 0), (6, pt p24 0), (39, .tuple #[.slice none 0 0, .int .i64 3])], by kernel_rfl, ?_⟩
  refine GL.run (j := 7) 5 [0, 2, 6, 7, 8] [(0, .slice A ((y0 :: y1 :: t).length) c), (2, pt p3 0), (6, pt p24 0), (7, .slice none 0 0), (8, .int .i64 3)] (by kernel_rfl) rfl ?_
  refine GL.k rfl hK32 (fun _ _ h => h) ?_
  refine G.seqK fun K38 hK39 => ?_
  refine G.region ?_
  refine GL.run (j := 7) 7 [2, 6, 48] [(2, pt p3 0), (6, pt p24 0), (48, .bool false)] (by kernel_rfl) rfl ?_
  refine GL.k rfl hK39 (fun _ _ h => h) ?_
  refine G.no rfl ?_
  refine G.skipK hK13 (fun _ _ h => h) ?_
  refine G.seqK fun K40 hK41 => ?_
  refine G.region ?_
  refine GL.run (j := 1) 1 [2, 50] [(2, pt p3 0), (50, .agg #[.int .i64 0, .int .u8 0, .int .u8 0, .int .u8 0, .int .u8 0, .int .u8 0, .int .u8 0, .int .u8 0, .int .u8 0, .int .u8 0, .int .u8 0, .int .u8 0, .int .u8 0, .int .u8 0, .int .u8 0, .int .u8 0, .int .u8 0, .int .u8 0, .int .u8 0, .int .u8 0, .int .u8 0, .slice none 0 0])] (by kernel_rfl) rfl ?_
  obtain ⟨w42, r43, H44⟩ := H35.stA (P := Try.prog) (o := 0) (vs := [.int .i64 0, .int .u8 0, .int .u8 0, .int .u8 0, .int .u8 0, .int .u8 0, .int .u8 0, .int .u8 0, .int .u8 0, .int .u8 0, .int .u8 0, .int .u8 0, .int .u8 0, .int .u8 0, .int .u8 0, .int .u8 0, .int .u8 0, .int .u8 0, .int .u8 0, .int .u8 0, .int .u8 0, .slice none 0 0]) (ty := 43) (m := 22) 0 rfl (by kernel_rfl) rfl (by simp) (by simp [Value.oneCell'])
  have H44 : Hp w [] [.blk p3 [.int .i64 0, .int .u8 0, .int .u8 0, .int .u8 0, .int .u8 0, .int .u8 0, .int .u8 0, .int .u8 0, .int .u8 0, .int .u8 0, .int .u8 0, .int .u8 0, .int .u8 0, .int .u8 0, .int .u8 0, .int .u8 0, .int .u8 0, .int .u8 0, .int .u8 0, .int .u8 0, .int .u8 0, .slice none 0 0] 43, .row A19 t.length c20 5 1 (by8 t), .blk p24 [.int .i64 2, .int .u8 0, .int .u8 0, .int .u8 0, .int .u8 0, .int .u8 0, .int .u8 0, .int .u8 0, .int .u8 0, .int .u8 0, .int .u8 0, .int .u8 0, .int .u8 0, .int .u8 0, .int .u8 0, .int .u8 0, .int .u8 0, .int .u8 0, .int .u8 0, .int .u8 0, .int .u8 0, .slice A19 t.length c20] 43] w42 := H44
  refine GL.semU (j := 2) r43 [2] [(2, pt p3 0)] (by kernel_rfl) rfl rfl rfl ?_
  refine GL.k rfl hK41 (fun _ _ h => h) ?_
  refine G.ret ?_
  intro F_ hF_ hM_
  refine hRet _ _ (bodyPost_1 rfl (RV.cell rfl (H44.ldA (o := 0) (ty := 43) (m := 22) (sub := [.int .i64 0, .int .u8 0, .int .u8 0, .int .u8 0, .int .u8 0, .int .u8 0, .int .u8 0, .int .u8 0, .int .u8 0, .int .u8 0, .int .u8 0, .int .u8 0, .int .u8 0, .int .u8 0, .int .u8 0, .int .u8 0, .int .u8 0, .int .u8 0, .int .u8 0, .int .u8 0, .int .u8 0, .slice none 0 0]) 0 rfl (by kernel_rfl) rfl rfl)) ?_ F_ hF_ hM_)
  exact ⟨rfl, H44.sub (List.nil_sublist _)⟩
theorem Parse_no25 (x0 x1 x2 x3 x4 x5 x6 x7 x8 x9 x10 x11 x12 x13 x14 x15 x16 x17 x18 x19 x20 x21 x22 x23 x24 : UInt8) (A : Option Addr) (c : Nat) (w : World) (hr : RdS w A (by8 ([x0, x1, x2, x3, x4, x5, x6, x7, x8, x9, x10, x11, x12, x13, x14, x15, x16, x17, x18, x19, x20, x21, x22, x23, x24] : List UInt8))) (hc : 25 ≤ c) (hna : ([118, 169, 20, x3, x4, x5, x6, x7, x8, x9, x10, x11, x12, x13, x14, x15, x16, x17, x18, x19, x20, x21, x22, 136, 172] : List UInt8) ≠ ([x0, x1, x2, x3, x4, x5, x6, x7, x8, x9, x10, x11, x12, x13, x14, x15, x16, x17, x18, x19, x20, x21, x22, x23, x24] : List UInt8)) (hnt : (106 :: UInt8.ofNat (([x2, x3, x4, x5, x6, x7, x8, x9, x10, x11, x12, x13, x14, x15, x16, x17, x18, x19, x20, x21, x22, x23, x24] : List UInt8)).length :: ([x2, x3, x4, x5, x6, x7, x8, x9, x10, x11, x12, x13, x14, x15, x16, x17, x18, x19, x20, x21, x22, x23, x24] : List UInt8)) ≠ ([x0, x1, x2, x3, x4, x5, x6, x7, x8, x9, x10, x11, x12, x13, x14, x15, x16, x17, x18, x19, x20, x21, x22, x23, x24] : List UInt8)) : Calls Try.prog 11 #[.slice A 25 c] w fun e w' => e = .returned (.agg #[.int .i64 0, .int .u8 0, .int .u8 0, .int .u8 0, .int .u8 0, .int .u8 0, .int .u8 0, .int .u8 0, .int .u8 0, .int .u8 0, .int .u8 0, .int .u8 0, .int .u8 0, .int .u8 0, .int .u8 0, .int .u8 0, .int .u8 0, .int .u8 0, .int .u8 0, .int .u8 0, .int .u8 0, .slice none 0 0]) ∧ Hp w [] [] w' := by
  refine calls_G (args := [.slice A 25 c]) Try.func11 rfl Try.ntmps11 rfl ?_
  intro Q0 hRet hNor hPan
  have H := Hp.start w
  have H : Hp w [] [] w := H
  refine G.seqK fun K1 hK2 => ?_
  refine G.region ?_
  obtain ⟨p3, w4, r5, H6⟩ := H.alloc (P := Try.prog) 43 [.int .i64 0, .int .u8 0, .int .u8 0, .int .u8 0, .int .u8 0, .int .u8 0, .int .u8 0, .int .u8 0, .int .u8 0, .int .u8 0, .int .u8 0, .int .u8 0, .int .u8 0, .int .u8 0, .int .u8 0, .int .u8 0, .int .u8 0, .int .u8 0, .int .u8 0, .int .u8 0, .int .u8 0, .slice none 0 0] (by kernel_rfl)
  have H6 : Hp w [] [.blk p3 [.int .i64 0, .int .u8 0, .int .u8 0, .int .u8 0, .int .u8 0, .int .u8 0, .int .u8 0, .int .u8 0, .int .u8 0, .int .u8 0, .int .u8 0, .int .u8 0, .int .u8 0, .int .u8 0, .int .u8 0, .int .u8 0, .int .u8 0, .int .u8 0, .int .u8 0, .int .u8 0, .int .u8 0, .slice none 0 0] 43] w4 := H6
  refine GL.sem (j := 1) (r5) [0, 2] [(0, .slice A 25 c), (2, pt p3 0)] (by kernel_rfl) (by kernel_rfl) rfl ?_
  refine GL.k rfl hK2 (fun _ _ h => h) ?_
  refine G.seqK fun K7 hK8 => ?_
  refine G.seqK fun K9 hK10 => ?_
  refine G.region ?_
  refine GL.run (j := 3) 3 [0, 2, 11] [(0, .slice A 25 c), (2, pt p3 0), (11, .bool true)] (by kernel_rfl) rfl ?_
  refine GL.k rfl hK10 (fun _ _ h => h) ?_
  refine G.yes rfl ?_
  refine G.seqK fun K11 hK12 => ?_
  refine G.region ?_
  refine GL.run (j := 1) 1 [0, 2, 12] [(0, .slice A 25 c), (2, pt p3 0), (12, .slice A 25 c)] (by kernel_rfl) rfl ?_
  refine GL.sem (j := 2) (run_sliceSl (P := Try.prog) (lo := some (.int .i64 3)) (hi := some (.int .i64 23)) (t := 38) (len := 25) (cap := c) (A := A) (l := 3) (h := 23) (by kernel_rfl) (Or.inr ⟨_, _, rfl, rfl⟩) (Or.inr ⟨_, _, rfl, rfl⟩) (by omega) (by omega)) [0, 2, 13] [(0, .slice A 25 c), (2, pt p3 0), (13, .slice (if c = 3 then A else Option.map (fun x => Addr.add x 3) A) 20 (c - 3))] (by kernel_rfl) (by kernel_rfl) rfl ?_
  refine GL.sem (j := 3) (run_s2a (P := Try.prog) (t := 28) (len := 20) (cap := (c - 3)) (n := 20) (A := (if c = 3 then A else Option.map (fun x => Addr.add x 3) A)) (by kernel_rfl) (by omega)) [0, 2, 14] [(0, .slice A 25 c), (2, pt p3 0), (14, .pointer (if c = 3 then A else Option.map (fun x => Addr.add x 3) A))] (by kernel_rfl) (by kernel_rfl) rfl ?_
  refine GL.sem (j := 4) (run_ldArr (P := Try.prog) (ty := 28) (m := 20) (A := (if c = 3 then A else Option.map (fun x => Addr.add x 3) A)) (xs := by8 ([x3, x4, x5, x6, x7, x8, x9, x10, x11, x12, x13, x14, x15, x16, x17, x18, x19, x20, x21, x22] : List UInt8)) (by kernel_rfl) (RdS.cut8 (cap := c) (hr.hp H6) 3 23 (cs := ([x3, x4, x5, x6, x7, x8, x9, x10, x11, x12, x13, x14, x15, x16, x17, x18, x19, x20, x21, x22] : List UInt8)) (by first | rfl | omega | (simp only [List.length_cons, List.length_nil, List.length_drop, List.length_take, List.length_append] <;> omega)) rfl) rfl (by decide)) [0, 2, 15] [(0, .slice A 25 c), (2, pt p3 0), (15, .agg #[.int .u8 (x3.toNat : Int), .int .u8 (x4.toNat : Int), .int .u8 (x5.toNat : Int), .int .u8 (x6.toNat : Int), .int .u8 (x7.toNat : Int), .int .u8 (x8.toNat : Int), .int .u8 (x9.toNat : Int), .int .u8 (x10.toNat : Int), .int .u8 (x11.toNat : Int), .int .u8 (x12.toNat : Int), .int .u8 (x13.toNat : Int), .int .u8 (x14.toNat : Int), .int .u8 (x15.toNat : Int), .int .u8 (x16.toNat : Int), .int .u8 (x17.toNat : Int), .int .u8 (x18.toNat : Int), .int .u8 (x19.toNat : Int), .int .u8 (x20.toNat : Int), .int .u8 (x21.toNat : Int), .int .u8 (x22.toNat : Int)])] (by kernel_rfl) (by kernel_rfl) rfl ?_
  refine GL.run (j := 5) 1 [0, 2, 16] [(0, .slice A 25 c), (2, pt p3 0), (16, .agg #[.int .i64 1, .int .u8 (x3.toNat : Int), .int .u8 (x4.toNat : Int), .int .u8 (x5.toNat : Int), .int .u8 (x6.toNat : Int), .int .u8 (x7.toNat : Int), .int .u8 (x8.toNat : Int), .int .u8 (x9.toNat : Int), .int .u8 (x10.toNat : Int), .int .u8 (x11.toNat : Int), .int .u8 (x12.toNat : Int), .int .u8 (x13.toNat : Int), .int .u8 (x14.toNat : Int), .int .u8 (x15.toNat : Int), .int .u8 (x16.toNat : Int), .int .u8 (x17.toNat : Int), .int .u8 (x18.toNat : Int), .int .u8 (x19.toNat : Int), .int .u8 (x20.toNat : Int), .int .u8 (x21.toNat : Int), .int .u8 (x22.toNat : Int), .slice none 0 0])] (by kernel_rfl) rfl ?_
  obtain ⟨p13, w14, r15, H16⟩ := H6.alloc (P := Try.prog) 43 [.int .i64 0, .int .u8 0, .int .u8 0, .int .u8 0, .int .u8 0, .int .u8 0, .int .u8 0, .int .u8 0, .int .u8 0, .int .u8 0, .int .u8 0, .int .u8 0, .int .u8 0, .int .u8 0, .int .u8 0, .int .u8 0, .int .u8 0, .int .u8 0, .int .u8 0, .int .u8 0, .int .u8 0, .slice none 0 0] (by kernel_rfl)
  have H16 : Hp w [] [.blk p3 [.int .i64 0, .int .u8 0, .int .u8 0, .int .u8 0, .int .u8 0, .int .u8 0, .int .u8 0, .int .u8 0, .int .u8 0, .int .u8 0, .int .u8 0, .int .u8 0, .int .u8 0, .int .u8 0, .int .u8 0, .int .u8 0, .int .u8 0, .int .u8 0, .int .u8 0, .int .u8 0, .int .u8 0, .slice none 0 0] 43, .blk p13 [.int .i64 0, .int .u8 0, .int .u8 0, .int .u8 0, .int .u8 0, .int .u8 0, .int .u8 0, .int .u8 0, .int .u8 0, .int .u8 0, .int .u8 0, .int .u8 0, .int .u8 0, .int .u8 0, .int .u8 0, .int .u8 0, .int .u8 0, .int .u8 0, .int .u8 0, .int .u8 0, .int .u8 0, .slice none 0 0] 43] w14 := H16
  refine GL.sem (j := 6) (r15) [0, 2, 3, 16] [(0, .slice A 25 c), (2, pt p3 0), (3, pt p13 0), (16, .agg #[.int .i64 1, .int .u8 (x3.toNat : Int), .int .u8 (x4.toNat : Int), .int .u8 (x5.toNat : Int), .int .u8 (x6.toNat : Int), .int .u8 (x7.toNat : Int), .int .u8 (x8.toNat : Int), .int .u8 (x9.toNat : Int), .int .u8 (x10.toNat : Int), .int .u8 (x11.toNat : Int), .int .u8 (x12.toNat : Int), .int .u8 (x13.toNat : Int), .int .u8 (x14.toNat : Int), .int .u8 (x15.toNat : Int), .int .u8 (x16.toNat : Int), .int .u8 (x17.toNat : Int), .int .u8 (x18.toNat : Int), .int .u8 (x19.toNat : Int), .int .u8 (x20.toNat : Int), .int .u8 (x21.toNat : Int), .int .u8 (x22.toNat : Int), .slice none 0 0])] (by kernel_rfl) (by kernel_rfl) rfl ?_
  obtain ⟨w17, r18, H19⟩ := H16.stA (P := Try.prog) (o := 0) (vs := [.int .i64 1, .int .u8 (x3.toNat : Int), .int .u8 (x4.toNat : Int), .int .u8 (x5.toNat : Int), .int .u8 (x6.toNat : Int), .int .u8 (x7.toNat : Int), .int .u8 (x8.toNat : Int), .int .u8 (x9.toNat : Int), .int .u8 (x10.toNat : Int), .int .u8 (x11.toNat : Int), .int .u8 (x12.toNat : Int), .int .u8 (x13.toNat : Int), .int .u8 (x14.toNat : Int), .int .u8 (x15.toNat : Int), .int .u8 (x16.toNat : Int), .int .u8 (x17.toNat : Int), .int .u8 (x18.toNat : Int), .int .u8 (x19.toNat : Int), .int .u8 (x20.toNat : Int), .int .u8 (x21.toNat : Int), .int .u8 (x22.toNat : Int), .slice none 0 0]) (ty := 43) (m := 22) 1 rfl (by kernel_rfl) rfl (by simp) (by simp [Value.oneCell'])
  have H19 : Hp w [] [.blk p3 [.int .i64 0, .int .u8 0, .int .u8 0, .int .u8 0, .int .u8 0, .int .u8 0, .int .u8 0, .int .u8 0, .int .u8 0, .int .u8 0, .int .u8 0, .int .u8 0, .int .u8 0, .int .u8 0, .int .u8 0, .int .u8 0, .int .u8 0, .int .u8 0, .int .u8 0, .int .u8 0, .int .u8 0, .slice none 0 0] 43, .blk p13 [.int .i64 1, .int .u8 (x3.toNat : Int), .int .u8 (x4.toNat : Int), .int .u8 (x5.toNat : Int), .int .u8 (x6.toNat : Int), .int .u8 (x7.toNat : Int), .int .u8 (x8.toNat : Int), .int .u8 (x9.toNat : Int), .int .u8 (x10.toNat : Int), .int .u8 (x11.toNat : Int), .int .u8 (x12.toNat : Int), .int .u8 (x13.toNat : Int), .int .u8 (x14.toNat : Int), .int .u8 (x15.toNat : Int), .int .u8 (x16.toNat : Int), .int .u8 (x17.toNat : Int), .int .u8 (x18.toNat : Int), .int .u8 (x19.toNat : Int), .int .u8 (x20.toNat : Int), .int .u8 (x21.toNat : Int), .int .u8 (x22.toNat : Int), .slice none 0 0] 43] w17 := H19
  refine GL.semU (j := 7) r18 [0, 2, 3] [(0, .slice A 25 c), (2, pt p3 0), (3, pt p13 0)] (by kernel_rfl) rfl rfl rfl ?_
  refine GL.k rfl hK12 (fun _ _ h => h) ?_
  refine G.seqK fun K20 hK21 => ?_
  refine G.region ?_
  refine GL.sem (j := 1) (H19.ldA (o := 0) (ty := 43) (m := 22) (sub := [.int .i64 1, .int .u8 (x3.toNat : Int), .int .u8 (x4.toNat : Int), .int .u8 (x5.toNat : Int), .int .u8 (x6.toNat : Int), .int .u8 (x7.toNat : Int), .int .u8 (x8.toNat : Int), .int .u8 (x9.toNat : Int), .int .u8 (x10.toNat : Int), .int .u8 (x11.toNat : Int), .int .u8 (x12.toNat : Int), .int .u8 (x13.toNat : Int), .int .u8 (x14.toNat : Int), .int .u8 (x15.toNat : Int), .int .u8 (x16.toNat : Int), .int .u8 (x17.toNat : Int), .int .u8 (x18.toNat : Int), .int .u8 (x19.toNat : Int), .int .u8 (x20.toNat : Int), .int .u8 (x21.toNat : Int), .int .u8 (x22.toNat : Int), .slice none 0 0]) 1 rfl (by kernel_rfl) rfl rfl) [0, 2, 3, 18] [(0, .slice A 25 c), (2, pt p3 0), (3, pt p13 0), (18, .agg #[.int .i64 1, .int .u8 (x3.toNat : Int), .int .u8 (x4.toNat : Int), .int .u8 (x5.toNat : Int), .int .u8 (x6.toNat : Int), .int .u8 (x7.toNat : Int), .int .u8 (x8.toNat : Int), .int .u8 (x9.toNat : Int), .int .u8 (x10.toNat : Int), .int .u8 (x11.toNat : Int), .int .u8 (x12.toNat : Int), .int .u8 (x13.toNat : Int), .int .u8 (x14.toNat : Int), .int .u8 (x15.toNat : Int), .int .u8 (x16.toNat : Int), .int .u8 (x17.toNat : Int), .int .u8 (x18.toNat : Int), .int .u8 (x19.toNat : Int), .int .u8 (x20.toNat : Int), .int .u8 (x21.toNat : Int), .int .u8 (x22.toNat : Int), .slice none 0 0])] (by kernel_rfl) (by kernel_rfl) rfl ?_
  refine GL.call (j := 2) (Bytes_addr x3 x4 x5 x6 x7 x8 x9 x10 x11 x12 x13 x14 x15 x16 x17 x18 x19 x20 x21 x22 none 0 0 w17) (by kernel_rfl) rfl (fun e_ w26 hR => ?_)
  obtain ⟨A22, c23, rfl, H25⟩ := hR
  have H24 : Hp w [] [.blk p3 [.int .i64 0, .int .u8 0, .int .u8 0, .int .u8 0, .int .u8 0, .int .u8 0, .int .u8 0, .int .u8 0, .int .u8 0, .int .u8 0, .int .u8 0, .int .u8 0, .int .u8 0, .int .u8 0, .int .u8 0, .int .u8 0, .int .u8 0, .int .u8 0, .int .u8 0, .int .u8 0, .int .u8 0, .slice none 0 0] 43, .blk p13 [.int .i64 1, .int .u8 (x3.toNat : Int), .int .u8 (x4.toNat : Int), .int .u8 (x5.toNat : Int), .int .u8 (x6.toNat : Int), .int .u8 (x7.toNat : Int), .int .u8 (x8.toNat : Int), .int .u8 (x9.toNat : Int), .int .u8 (x10.toNat : Int), .int .u8 (x11.toNat : Int), .int .u8 (x12.toNat : Int), .int .u8 (x13.toNat : Int), .int .u8 (x14.toNat : Int), .int .u8 (x15.toNat : Int), .int .u8 (x16.toNat : Int), .int .u8 (x17.toNat : Int), .int .u8 (x18.toNat : Int), .int .u8 (x19.toNat : Int), .int .u8 (x20.toNat : Int), .int .u8 (x21.toNat : Int), .int .u8 (x22.toNat : Int), .slice none 0 0] 43, .row A22 (([118, 169, 20, x3, x4, x5, x6, x7, x8, x9, x10, x11, x12, x13, x14, x15, x16, x17, x18, x19, x20, x21, x22, 136, 172] : List UInt8).length) c23 5 1 (by8 ([118, 169, 20, x3, x4, x5, x6, x7, x8, x9, x10, x11, x12, x13, x14, x15, x16, x17, x18, x19, x20, x21, x22, 136, 172] : List UInt8))] w26 := H19.callNew H25
  refine ⟨_, rfl, [0, 2, 3, 19], [(0, .slice A 25 c), (2, pt p3 0), (3, pt p13 0), (19, .tuple #[.slice A22 (([118, 169, 20, x3, x4, x5, x6, x7, x8, x9, x10, x11, x12, x13, x14, x15, x16, x17, x18, x19, x20, x21, x22, 136, 172] : List UInt8).length) c23, .int .i64 0])], by kernel_rfl, ?_⟩
  refine GL.run (j := 7) 5 [0, 2, 3, 4, 5] [(0, .slice A 25 c), (2, pt p3 0), (3, pt p13 0), (4, .slice A22 (([118, 169, 20, x3, x4, x5, x6, x7, x8, x9, x10, x11, x12, x13, x14, x15, x16, x17, x18, x19, x20, x21, x22, 136, 172] : List UInt8).length) c23), (5, .int .i64 0)] (by kernel_rfl) rfl ?_
  refine GL.k rfl hK21 (fun _ _ h => h) ?_
  refine G.seqK fun K27 hK28 => ?_
  refine G.region ?_
  refine GL.run (j := 5) 5 [0, 2, 3, 24, 25, 26] [(0, .slice A 25 c), (2, pt p3 0), (3, pt p13 0), (24, .bool true), (25, .slice A22 (([118, 169, 20, x3, x4, x5, x6, x7, x8, x9, x10, x11, x12, x13, x14, x15, x16, x17, x18, x19, x20, x21, x22, 136, 172] : List UInt8).length) c23), (26, .slice A 25 c)] (by kernel_rfl) rfl ?_
  refine GL.call (j := 6) (Equal_calls ([118, 169, 20, x3, x4, x5, x6, x7, x8, x9, x10, x11, x12, x13, x14, x15, x16, x17, x18, x19, x20, x21, x22, 136, 172] : List UInt8) ([x0, x1, x2, x3, x4, x5, x6, x7, x8, x9, x10, x11, x12, x13, x14, x15, x16, x17, x18, x19, x20, x21, x22, x23, x24] : List UInt8) A22 A c23 c w26 (H24.rdRow 2 rfl) (hr.hp H24)) (by kernel_rfl) rfl (fun e_ w29 hR => ?_)
  obtain ⟨rfl, H31⟩ := hR
  have H30 : Hp w [] [.blk p3 [.int .i64 0, .int .u8 0, .int .u8 0, .int .u8 0, .int .u8 0, .int .u8 0, .int .u8 0, .int .u8 0, .int .u8 0, .int .u8 0, .int .u8 0, .int .u8 0, .int .u8 0, .int .u8 0, .int .u8 0, .int .u8 0, .int .u8 0, .int .u8 0, .int .u8 0, .int .u8 0, .int .u8 0, .slice none 0 0] 43, .blk p13 [.int .i64 1, .int .u8 (x3.toNat : Int), .int .u8 (x4.toNat : Int), .int .u8 (x5.toNat : Int), .int .u8 (x6.toNat : Int), .int .u8 (x7.toNat : Int), .int .u8 (x8.toNat : Int), .int .u8 (x9.toNat : Int), .int .u8 (x10.toNat : Int), .int .u8 (x11.toNat : Int), .int .u8 (x12.toNat : Int), .int .u8 (x13.toNat : Int), .int .u8 (x14.toNat : Int), .int .u8 (x15.toNat : Int), .int .u8 (x16.toNat : Int), .int .u8 (x17.toNat : Int), .int .u8 (x18.toNat : Int), .int .u8 (x19.toNat : Int), .int .u8 (x20.toNat : Int), .int .u8 (x21.toNat : Int), .int .u8 (x22.toNat : Int), .slice none 0 0] 43, .row A22 (([118, 169, 20, x3, x4, x5, x6, x7, x8, x9, x10, x11, x12, x13, x14, x15, x16, x17, x18, x19, x20, x21, x22, 136, 172] : List UInt8).length) c23 5 1 (by8 ([118, 169, 20, x3, x4, x5, x6, x7, x8, x9, x10, x11, x12, x13, x14, x15, x16, x17, x18, x19, x20, x21, x22, 136, 172] : List UInt8))] w29 := H24.callNil H31
  refine ⟨_, rfl, [0, 2, 3, 24, 27], [(0, .slice A 25 c), (2, pt p3 0), (3, pt p13 0), (24, .bool true), (27, .bool (([118, 169, 20, x3, x4, x5, x6, x7, x8, x9, x10, x11, x12, x13, x14, x15, x16, x17, x18, x19, x20, x21, x22, 136, 172] : List UInt8) == ([x0, x1, x2, x3, x4, x5, x6, x7, x8, x9, x10, x11, x12, x13, x14, x15, x16, x17, x18, x19, x20, x21, x22, x23, x24] : List UInt8)))], by kernel_rfl, ?_⟩
  refine GL.run (j := 7) 1 [0, 2, 3, 28] [(0, .slice A 25 c), (2, pt p3 0), (3, pt p13 0), (28, .bool (([118, 169, 20, x3, x4, x5, x6, x7, x8, x9, x10, x11, x12, x13, x14, x15, x16, x17, x18, x19, x20, x21, x22, 136, 172] : List UInt8) == ([x0, x1, x2, x3, x4, x5, x6, x7, x8, x9, x10, x11, x12, x13, x14, x15, x16, x17, x18, x19, x20, x21, x22, x23, x24] : List UInt8)))] (by kernel_rfl) rfl ?_
  refine GL.k rfl hK28 (fun _ _ h => h) ?_
  have hb32 : (([118, 169, 20, x3, x4, x5, x6, x7, x8, x9, x10, x11, x12, x13, x14, x15, x16, x17, x18, x19, x20, x21, x22, 136, 172] : List UInt8) == ([x0, x1, x2, x3, x4, x5, x6, x7, x8, x9, x10, x11, x12, x13, x14, x15, x16, x17, x18, x19, x20, x21, x22, x23, x24] : List UInt8)) = false := beq_eq_false_iff_ne.2 hna
  rw [hb32]
  refine G.no rfl ?_
  refine G.skipK hK8 (fun _ _ h => h) ?_
  refine G.seqK fun K33 hK34 => ?_
  refine G.seqK fun K35 hK36 => ?_
  refine G.region ?_
  refine GL.run (j := 3) 3 [0, 2, 32] [(0, .slice A 25 c), (2, pt p3 0), (32, .bool true)] (by kernel_rfl) rfl ?_
  refine GL.k rfl hK36 (fun _ _ h => h) ?_
  refine G.yes rfl ?_
  refine G.seqK fun K37 hK38 => ?_
  refine G.region ?_
  refine GL.run (j := 1) 1 [0, 2, 33] [(0, .slice A 25 c), (2, pt p3 0), (33, .slice A 25 c)] (by kernel_rfl) rfl ?_
  refine GL.sem (j := 2) (run_sliceSl (P := Try.prog) (lo := some (.int .i64 2)) (hi := none) (t := 38) (len := 25) (cap := c) (A := A) (l := 2) (h := 25) (by kernel_rfl) (Or.inr ⟨_, _, rfl, rfl⟩) (Or.inl ⟨rfl, rfl⟩) (by omega) (by omega)) [0, 2, 34] [(0, .slice A 25 c), (2, pt p3 0), (34, .slice (if c = 2 then A else Option.map (fun x => Addr.add x 2) A) 23 (c - 2))] (by kernel_rfl) (by kernel_rfl) rfl ?_
  refine GL.call (j := 3) (SClone_calls ([x2, x3, x4, x5, x6, x7, x8, x9, x10, x11, x12, x13, x14, x15, x16, x17, x18, x19, x20, x21, x22, x23, x24] : List UInt8) (if c = 2 then A else Option.map (fun x => Addr.add x 2) A) (c - 2) w29 (RdS.drop8 (cap := c) (hr.hp H30) 2 (cs := ([x2, x3, x4, x5, x6, x7, x8, x9, x10, x11, x12, x13, x14, x15, x16, x17, x18, x19, x20, x21, x22, x23, x24] : List UInt8)) (by first | rfl | omega | (simp only [List.length_cons, List.length_nil, List.length_drop, List.length_take, List.length_append] <;> omega)) rfl) (isNone_drop hr (by first | rfl | omega | (simp only [List.length_cons, List.length_nil, List.length_drop, List.length_take, List.length_append] <;> omega)) (by first | rfl | omega | (simp only [List.length_cons, List.length_nil, List.length_drop, List.length_take, List.length_append] <;> omega))) (by first | rfl | omega | (simp only [List.length_cons, List.length_nil, List.length_drop, List.length_take, List.length_append] <;> omega))) (by kernel_rfl) rfl (fun e_ w43 hR => ?_)
  obtain ⟨A39, c40, rfl, H42⟩ := hR
  have H41 : Hp w [] [.blk p3 [.int .i64 0, .int .u8 0, .int .u8 0, .int .u8 0, .int .u8 0, .int .u8 0, .int .u8 0, .int .u8 0, .int .u8 0, .int .u8 0, .int .u8 0, .int .u8 0, .int .u8 0, .int .u8 0, .int .u8 0, .int .u8 0, .int .u8 0, .int .u8 0, .int .u8 0, .int .u8 0, .int .u8 0, .slice none 0 0] 43, .blk p13 [.int .i64 1, .int .u8 (x3.toNat : Int), .int .u8 (x4.toNat : Int), .int .u8 (x5.toNat : Int), .int .u8 (x6.toNat : Int), .int .u8 (x7.toNat : Int), .int .u8 (x8.toNat : Int), .int .u8 (x9.toNat : Int), .int .u8 (x10.toNat : Int), .int .u8 (x11.toNat : Int), .int .u8 (x12.toNat : Int), .int .u8 (x13.toNat : Int), .int .u8 (x14.toNat : Int), .int .u8 (x15.toNat : Int), .int .u8 (x16.toNat : Int), .int .u8 (x17.toNat : Int), .int .u8 (x18.toNat : Int), .int .u8 (x19.toNat : Int), .int .u8 (x20.toNat : Int), .int .u8 (x21.toNat : Int), .int .u8 (x22.toNat : Int), .slice none 0 0] 43, .row A22 (([118, 169, 20, x3, x4, x5, x6, x7, x8, x9, x10, x11, x12, x13, x14, x15, x16, x17, x18, x19, x20, x21, x22, 136, 172] : List UInt8).length) c23 5 1 (by8 ([118, 169, 20, x3, x4, x5, x6, x7, x8, x9, x10, x11, x12, x13, x14, x15, x16, x17, x18, x19, x20, x21, x22, 136, 172] : List UInt8)), .row A39 23 c40 5 1 (by8 ([x2, x3, x4, x5, x6, x7, x8, x9, x10, x11, x12, x13, x14, x15, x16, x17, x18, x19, x20, x21, x22, x23, x24] : List UInt8))] w43 := H30.callNew H42
  refine ⟨_, rfl, [0, 2, 35], [(0, .slice A 25 c), (2, pt p3 0), (35, .slice A39 23 c40)], by kernel_rfl, ?_⟩
  refine GL.run (j := 4) 1 [0, 2, 36] [(0, .slice A 25 c), (2, pt p3 0), (36, .agg #[.int .i64 2, .int .u8 0, .int .u8 0, .int .u8 0, .int .u8 0, .int .u8 0, .int .u8 0, .int .u8 0, .int .u8 0, .int .u8 0, .int .u8 0, .int .u8 0, .int .u8 0, .int .u8 0, .int .u8 0, .int .u8 0, .int .u8 0, .int .u8 0, .int .u8 0, .int .u8 0, .int .u8 0, .slice A39 23 c40])] (by kernel_rfl) rfl ?_
  obtain ⟨p44, w45, r46, H47⟩ := H41.alloc (P := Try.prog) 43 [.int .i64 0, .int .u8 0, .int .u8 0, .int .u8 0, .int .u8 0, .int .u8 0, .int .u8 0, .int .u8 0, .int .u8 0, .int .u8 0, .int .u8 0, .int .u8 0, .int .u8 0, .int .u8 0, .int .u8 0, .int .u8 0, .int .u8 0, .int .u8 0, .int .u8 0, .int .u8 0, .int .u8 0, .slice none 0 0] (by kernel_rfl)
  have H47 : Hp w [] [.blk p3 [.int .i64 0, .int .u8 0, .int .u8 0, .int .u8 0, .int .u8 0, .int .u8 0, .int .u8 0, .int .u8 0, .int .u8 0, .int .u8 0, .int .u8 0, .int .u8 0, .int .u8 0, .int .u8 0, .int .u8 0, .int .u8 0, .int .u8 0, .int .u8 0, .int .u8 0, .int .u8 0, .int .u8 0, .slice none 0 0] 43, .blk p13 [.int .i64 1, .int .u8 (x3.toNat : Int), .int .u8 (x4.toNat : Int), .int .u8 (x5.toNat : Int), .int .u8 (x6.toNat : Int), .int .u8 (x7.toNat : Int), .int .u8 (x8.toNat : Int), .int .u8 (x9.toNat : Int), .int .u8 (x10.toNat : Int), .int .u8 (x11.toNat : Int), .int .u8 (x12.toNat : Int), .int .u8 (x13.toNat : Int), .int .u8 (x14.toNat : Int), .int .u8 (x15.toNat : Int), .int .u8 (x16.toNat : Int), .int .u8 (x17.toNat : Int), .int .u8 (x18.toNat : Int), .int .u8 (x19.toNat : Int), .int .u8 (x20.toNat : Int), .int .u8 (x21.toNat : Int), .int .u8 (x22.toNat : Int), .slice none 0 0] 43, .row A22 (([118, 169, 20, x3, x4, x5, x6, x7, x8, x9, x10, x11, x12, x13, x14, x15, x16, x17, x18, x19, x20, x21, x22, 136, 172] : List UInt8).length) c23 5 1 (by8 ([118, 169, 20, x3, x4, x5, x6, x7, x8, x9, x10, x11, x12, x13, x14, x15, x16, x17, x18, x19, x20, x21, x22, 136, 172] : List UInt8)), .row A39 23 c40 5 1 (by8 ([x2, x3, x4, x5, x6, x7, x8, x9, x10, x11, x12, x13, x14, x15, x16, x17, x18, x19, x20, x21, x22, x23, x24] : List UInt8)), .blk p44 [.int .i64 0, .int .u8 0, .int .u8 0, .int .u8 0, .int .u8 0, .int .u8 0, .int .u8 0, .int .u8 0, .int .u8 0, .int .u8 0, .int .u8 0, .int .u8 0, .int .u8 0, .int .u8 0, .int .u8 0, .int .u8 0, .int .u8 0, .int .u8 0, .int .u8 0, .int .u8 0, .int .u8 0, .slice none 0 0] 43] w45 := H47
  refine GL.sem (j := 5) (r46) [0, 2, 6, 36] [(0, .slice A 25 c), (2, pt p3 0), (6, pt p44 0), (36, .agg #[.int .i64 2, .int .u8 0, .int .u8 0, .int .u8 0, .int .u8 0, .int .u8 0, .int .u8 0, .int .u8 0, .int .u8 0, .int .u8 0, .int .u8 0, .int .u8 0, .int .u8 0, .int .u8 0, .int .u8 0, .int .u8 0, .int .u8 0, .int .u8 0, .int .u8 0, .int .u8 0, .int .u8 0, .slice A39 23 c40])] (by kernel_rfl) (by kernel_rfl) rfl ?_
  obtain ⟨w48, r49, H50⟩ := H47.stA (P := Try.prog) (o := 0) (vs := [.int .i64 2, .int .u8 0, .int .u8 0, .int .u8 0, .int .u8 0, .int .u8 0, .int .u8 0, .int .u8 0, .int .u8 0, .int .u8 0, .int .u8 0, .int .u8 0, .int .u8 0, .int .u8 0, .int .u8 0, .int .u8 0, .int .u8 0, .int .u8 0, .int .u8 0, .int .u8 0, .int .u8 0, .slice A39 23 c40]) (ty := 43) (m := 22) 4 rfl (by kernel_rfl) rfl (by simp) (by simp [Value.oneCell'])
  have H50 : Hp w [] [.blk p3 [.int .i64 0, .int .u8 0, .int .u8 0, .int .u8 0, .int .u8 0, .int .u8 0, .int .u8 0, .int .u8 0, .int .u8 0, .int .u8 0, .int .u8 0, .int .u8 0, .int .u8 0, .int .u8 0, .int .u8 0, .int .u8 0, .int .u8 0, .int .u8 0, .int .u8 0, .int .u8 0, .int .u8 0, .slice none 0 0] 43, .blk p13 [.int .i64 1, .int .u8 (x3.toNat : Int), .int .u8 (x4.toNat : Int), .int .u8 (x5.toNat : Int), .int .u8 (x6.toNat : Int), .int .u8 (x7.toNat : Int), .int .u8 (x8.toNat : Int), .int .u8 (x9.toNat : Int), .int .u8 (x10.toNat : Int), .int .u8 (x11.toNat : Int), .int .u8 (x12.toNat : Int), .int .u8 (x13.toNat : Int), .int .u8 (x14.toNat : Int), .int .u8 (x15.toNat : Int), .int .u8 (x16.toNat : Int), .int .u8 (x17.toNat : Int), .int .u8 (x18.toNat : Int), .int .u8 (x19.toNat : Int), .int .u8 (x20.toNat : Int), .int .u8 (x21.toNat : Int), .int .u8 (x22.toNat : Int), .slice none 0 0] 43, .row A22 (([118, 169, 20, x3, x4, x5, x6, x7, x8, x9, x10, x11, x12, x13, x14, x15, x16, x17, x18, x19, x20, x21, x22, 136, 172] : List UInt8).length) c23 5 1 (by8 ([118, 169, 20, x3, x4, x5, x6, x7, x8, x9, x10, x11, x12, x13, x14, x15, x16, x17, x18, x19, x20, x21, x22, 136, 172] : List UInt8)), .row A39 23 c40 5 1 (by8 ([x2, x3, x4, x5, x6, x7, x8, x9, x10, x11, x12, x13, x14, x15, x16, x17, x18, x19, x20, x21, x22, x23, x24] : List UInt8)), .blk p44 [.int .i64 2, .int .u8 0, .int .u8 0, .int .u8 0, .int .u8 0, .int .u8 0, .int .u8 0, .int .u8 0, .int .u8 0, .int .u8 0, .int .u8 0, .int .u8 0, .int .u8 0, .int .u8 0, .int .u8 0, .int .u8 0, .int .u8 0, .int .u8 0, .int .u8 0, .int .u8 0, .int .u8 0, .slice A39 23 c40] 43] w48 := H50
  refine GL.semU (j := 6) r49 [0, 2, 6] [(0, .slice A 25 c), (2, pt p3 0), (6, pt p44 0)] (by kernel_rfl) rfl rfl rfl ?_
  refine GL.k rfl hK38 (fun _ _ h => h) ?_
  refine G.seqK fun K51 hK52 => ?_
  refine G.region ?_
  refine GL.sem (j := 1) (H50.ldA (o := 0) (ty := 43) (m := 22) (sub := [.int .i64 2, .int .u8 0, .int .u8 0, .int .u8 0, .int .u8 0, .int .u8 0, .int .u8 0, .int .u8 0, .int .u8 0, .int .u8 0, .int .u8 0, .int .u8 0, .int .u8 0, .int .u8 0, .int .u8 0, .int .u8 0, .int .u8 0, .int .u8 0, .int .u8 0, .int .u8 0, .int .u8 0, .slice A39 23 c40]) 4 rfl (by kernel_rfl) rfl rfl) [0, 2, 6, 38] [(0, .slice A 25 c), (2, pt p3 0), (6, pt p44 0), (38, .agg #[.int .i64 2, .int .u8 0, .int .u8 0, .int .u8 0, .int .u8 0, .int .u8 0, .int .u8 0, .int .u8 0, .int .u8 0, .int .u8 0, .int .u8 0, .int .u8 0, .int .u8 0, .int .u8 0, .int .u8 0, .int .u8 0, .int .u8 0, .int .u8 0, .int .u8 0, .int .u8 0, .int .u8 0, .slice A39 23 c40])] (by kernel_rfl) (by kernel_rfl) rfl ?_
  refine GL.call (j := 2) (Bytes_tag (0 : UInt8) (0 : UInt8) (0 : UInt8) (0 : UInt8) (0 : UInt8) (0 : UInt8) (0 : UInt8) (0 : UInt8) (0 : UInt8) (0 : UInt8) (0 : UInt8) (0 : UInt8) (0 : UInt8) (0 : UInt8) (0 : UInt8) (0 : UInt8) (0 : UInt8) (0 : UInt8) (0 : UInt8) (0 : UInt8) ([x2, x3, x4, x5, x6, x7, x8, x9, x10, x11, x12, x13, x14, x15, x16, x17, x18, x19, x20, x21, x22, x23, x24] : List UInt8) A39 c40 w48 (H50.rdRow 3 rfl) (by simp) (by simp)) (by kernel_rfl) rfl (fun e_ w57 hR => ?_)
  obtain ⟨A53, c54, rfl, H56⟩ := hR
  have H55 : Hp w [] [.blk p3 [.int .i64 0, .int .u8 0, .int .u8 0, .int .u8 0, .int .u8 0, .int .u8 0, .int .u8 0, .int .u8 0, .int .u8 0, .int .u8 0, .int .u8 0, .int .u8 0, .int .u8 0, .int .u8 0, .int .u8 0, .int .u8 0, .int .u8 0, .int .u8 0, .int .u8 0, .int .u8 0, .int .u8 0, .slice none 0 0] 43, .blk p13 [.int .i64 1, .int .u8 (x3.toNat : Int), .int .u8 (x4.toNat : Int), .int .u8 (x5.toNat : Int), .int .u8 (x6.toNat : Int), .int .u8 (x7.toNat : Int), .int .u8 (x8.toNat : Int), .int .u8 (x9.toNat : Int), .int .u8 (x10.toNat : Int), .int .u8 (x11.toNat : Int), .int .u8 (x12.toNat : Int), .int .u8 (x13.toNat : Int), .int .u8 (x14.toNat : Int), .int .u8 (x15.toNat : Int), .int .u8 (x16.toNat : Int), .int .u8 (x17.toNat : Int), .int .u8 (x18.toNat : Int), .int .u8 (x19.toNat : Int), .int .u8 (x20.toNat : Int), .int .u8 (x21.toNat : Int), .int .u8 (x22.toNat : Int), .slice none 0 0] 43, .row A22 (([118, 169, 20, x3, x4, x5, x6, x7, x8, x9, x10, x11, x12, x13, x14, x15, x16, x17, x18, x19, x20, x21, x22, 136, 172] : List UInt8).length) c23 5 1 (by8 ([118, 169, 20, x3, x4, x5, x6, x7, x8, x9, x10, x11, x12, x13, x14, x15, x16, x17, x18, x19, x20, x21, x22, 136, 172] : List UInt8)), .row A39 23 c40 5 1 (by8 ([x2, x3, x4, x5, x6, x7, x8, x9, x10, x11, x12, x13, x14, x15, x16, x17, x18, x19, x20, x21, x22, x23, x24] : List UInt8)), .blk p44 [.int .i64 2, .int .u8 0, .int .u8 0, .int .u8 0, .int .u8 0, .int .u8 0, .int .u8 0, .int .u8 0, .int .u8 0, .int .u8 0, .int .u8 0, .int .u8 0, .int .u8 0, .int .u8 0, .int .u8 0, .int .u8 0, .int .u8 0, .int .u8 0, .int .u8 0, .int .u8 0, .int .u8 0, .slice A39 23 c40] 43, .row A53 ((106 :: UInt8.ofNat ([x2, x3, x4, x5, x6, x7, x8, x9, x10, x11, x12, x13, x14, x15, x16, x17, x18, x19, x20, x21, x22, x23, x24] : List UInt8).length :: ([x2, x3, x4, x5, x6, x7, x8, x9, x10, x11, x12, x13, x14, x15, x16, x17, x18, x19, x20, x21, x22, x23, x24] : List UInt8)).length) c54 5 1 (by8 (106 :: UInt8.ofNat ([x2, x3, x4, x5, x6, x7, x8, x9, x10, x11, x12, x13, x14, x15, x16, x17, x18, x19, x20, x21, x22, x23, x24] : List UInt8).length :: ([x2, x3, x4, x5, x6, x7, x8, x9, x10, x11, x12, x13, x14, x15, x16, x17, x18, x19, x20, x21, x22, x23, x24] : List UInt8)))] w57 := H50.callNew H56
  refine ⟨_, rfl, [0, 2, 6, 39], [(0, .slice A 25 c), (2, pt p3 0), (6, pt p44 0), (39, .tuple #[.slice A53 ((106 :: UInt8.ofNat ([x2, x3, x4, x5, x6, x7, x8, x9, x10, x11, x12, x13, x14, x15, x16, x17, x18, x19, x20, x21, x22, x23, x24] : List UInt8).length :: ([x2, x3, x4, x5, x6, x7, x8, x9, x10, x11, x12, x13, x14, x15, x16, x17, x18, x19, x20, x21, x22, x23, x24] : List UInt8)).length) c54, .int .i64 0])], by kernel_rfl, ?_⟩
  refine GL.run (j := 7) 5 [0, 2, 6, 7, 8] [(0, .slice A 25 c), (2, pt p3 0), (6, pt p44 0), (7, .slice A53 ((106 :: UInt8.ofNat ([x2, x3, x4, x5, x6, x7, x8, x9, x10, x11, x12, x13, x14, x15, x16, x17, x18, x19, x20, x21, x22, x23, x24] : List UInt8).length :: ([x2, x3, x4, x5, x6, x7, x8, x9, x10, x11, x12, x13, x14, x15, x16, x17, x18, x19, x20, x21, x22, x23, x24] : List UInt8)).length) c54), (8, .int .i64 0)] (by kernel_rfl) rfl ?_
  refine GL.k rfl hK52 (fun _ _ h => h) ?_
  refine G.seqK fun K58 hK59 => ?_
  refine G.region ?_
  refine GL.run (j := 5) 5 [2, 6, 44, 45, 46] [(2, pt p3 0), (6, pt p44 0), (44, .bool true), (45, .slice A53 ((106 :: UInt8.ofNat ([x2, x3, x4, x5, x6, x7, x8, x9, x10, x11, x12, x13, x14, x15, x16, x17, x18, x19, x20, x21, x22, x23, x24] : List UInt8).length :: ([x2, x3, x4, x5, x6, x7, x8, x9, x10, x11, x12, x13, x14, x15, x16, x17, x18, x19, x20, x21, x22, x23, x24] : List UInt8)).length) c54), (46, .slice A 25 c)] (by kernel_rfl) rfl ?_
  refine GL.call (j := 6) (Equal_calls (106 :: UInt8.ofNat ([x2, x3, x4, x5, x6, x7, x8, x9, x10, x11, x12, x13, x14, x15, x16, x17, x18, x19, x20, x21, x22, x23, x24] : List UInt8).length :: ([x2, x3, x4, x5, x6, x7, x8, x9, x10, x11, x12, x13, x14, x15, x16, x17, x18, x19, x20, x21, x22, x23, x24] : List UInt8)) ([x0, x1, x2, x3, x4, x5, x6, x7, x8, x9, x10, x11, x12, x13, x14, x15, x16, x17, x18, x19, x20, x21, x22, x23, x24] : List UInt8) A53 A c54 c w57 (H55.rdRow 5 rfl) (hr.hp H55)) (by kernel_rfl) rfl (fun e_ w60 hR => ?_)
  obtain ⟨rfl, H62⟩ := hR
  have H61 : Hp w [] [.blk p3 [.int .i64 0, .int .u8 0, .int .u8 0, .int .u8 0, .int .u8 0, .int .u8 0, .int .u8 0, .int .u8 0, .int .u8 0, .int .u8 0, .int .u8 0, .int .u8 0, .int .u8 0, .int .u8 0, .int .u8 0, .int .u8 0, .int .u8 0, .int .u8 0, .int .u8 0, .int .u8 0, .int .u8 0, .slice none 0 0] 43, .blk p13 [.int .i64 1, .int .u8 (x3.toNat : Int), .int .u8 (x4.toNat : Int), .int .u8 (x5.toNat : Int), .int .u8 (x6.toNat : Int), .int .u8 (x7.toNat : Int), .int .u8 (x8.toNat : Int), .int .u8 (x9.toNat : Int), .int .u8 (x10.toNat : Int), .int .u8 (x11.toNat : Int), .int .u8 (x12.toNat : Int), .int .u8 (x13.toNat : Int), .int .u8 (x14.toNat : Int), .int .u8 (x15.toNat : Int), .int .u8 (x16.toNat : Int), .int .u8 (x17.toNat : Int), .int .u8 (x18.toNat : Int), .int .u8 (x19.toNat : Int), .int .u8 (x20.toNat : Int), .int .u8 (x21.toNat : Int), .int .u8 (x22.toNat : Int), .slice none 0 0] 43, .row A22 (([118, 169, 20, x3, x4, x5, x6, x7, x8, x9, x10, x11, x12, x13, x14, x15, x16, x17, x18, x19, x20, x21, x22, 136, 172] : List UInt8).length) c23 5 1 (by8 ([118, 169, 20, x3, x4, x5, x6, x7, x8, x9, x10, x11, x12, x13, x14, x15, x16, x17, x18, x19, x20, x21, x22, 136, 172] : List UInt8)), .row A39 23 c40 5 1 (by8 ([x2, x3, x4, x5, x6, x7, x8, x9, x10, x11, x12, x13, x14, x15, x16, x17, x18, x19, x20, x21, x22, x23, x24] : List UInt8)), .blk p44 [.int .i64 2, .int .u8 0, .int .u8 0, .int .u8 0, .int .u8 0, .int .u8 0, .int .u8 0, .int .u8 0, .int .u8 0, .int .u8 0, .int .u8 0, .int .u8 0, .int .u8 0, .int .u8 0, .int .u8 0, .int .u8 0, .int .u8 0, .int .u8 0, .int .u8 0, .int .u8 0, .int .u8 0, .slice A39 23 c40] 43, .row A53 ((106 :: UInt8.ofNat ([x2, x3, x4, x5, x6, x7, x8, x9, x10, x11, x12, x13, x14, x15, x16, x17, x18, x19, x20, x21, x22, x23, x24] : List UInt8).length :: ([x2, x3, x4, x5, x6, x7, x8, x9, x10, x11, x12, x13, x14, x15, x16, x17, x18, x19, x20, x21, x22, x23, x24] : List UInt8)).length) c54 5 1 (by8 (106 :: UInt8.ofNat ([x2, x3, x4, x5, x6, x7, x8, x9, x10, x11, x12, x13, x14, x15, x16, x17, x18, x19, x20, x21, x22, x23, x24] : List UInt8).length :: ([x2, x3, x4, x5, x6, x7, x8, x9, x10, x11, x12, x13, x14, x15, x16, x17, x18, x19, x20, x21, x22, x23, x24] : List UInt8)))] w60 := H55.callNil H62
  refine ⟨_, rfl, [2, 6, 44, 47], [(2, pt p3 0), (6, pt p44 0), (44, .bool true), (47, .bool ((106 :: UInt8.ofNat ([x2, x3, x4, x5, x6, x7, x8, x9, x10, x11, x12, x13, x14, x15, x16, x17, x18, x19, x20, x21, x22, x23, x24] : List UInt8).length :: ([x2, x3, x4, x5, x6, x7, x8, x9, x10, x11, x12, x13, x14, x15, x16, x17, x18, x19, x20, x21, x22, x23, x24] : List UInt8)) == ([x0, x1, x2, x3, x4, x5, x6, x7, x8, x9, x10, x11, x12, x13, x14, x15, x16, x17, x18, x19, x20, x21, x22, x23, x24] : List UInt8)))], by kernel_rfl, ?_⟩
  refine GL.run (j := 7) 1 [2, 6, 48] [(2, pt p3 0), (6, pt p44 0), (48, .bool ((106 :: UInt8.ofNat ([x2, x3, x4, x5, x6, x7, x8, x9, x10, x11, x12, x13, x14, x15, x16, x17, x18, x19, x20, x21, x22, x23, x24] : List UInt8).length :: ([x2, x3, x4, x5, x6, x7, x8, x9, x10, x11, x12, x13, x14, x15, x16, x17, x18, x19, x20, x21, x22, x23, x24] : List UInt8)) == ([x0, x1, x2, x3, x4, x5, x6, x7, x8, x9, x10, x11, x12, x13, x14, x15, x16, x17, x18, x19, x20, x21, x22, x23, x24] : List UInt8)))] (by kernel_rfl) rfl ?_
  refine GL.k rfl hK59 (fun _ _ h => h) ?_
  have hb63 : ((106 :: UInt8.ofNat ([x2, x3, x4, x5, x6, x7, x8, x9, x10, x11, x12, x13, x14, x15, x16, x17, x18, x19, x20, x21, x22, x23, x24] : List UInt8).length :: ([x2, x3, x4, x5, x6, x7, x8, x9, x10, x11, x12, x13, x14, x15, x16, x17, x18, x19, x20, x21, x22, x23, x24] : List UInt8)) == ([x0, x1, x2, x3, x4, x5, x6, x7, x8, x9, x10, x11, x12, x13, x14, x15, x16, x17, x18, x19, x20, x21, x22, x23, x24] : List UInt8)) = false := beq_eq_false_iff_ne.2 hnt
  rw [hb63]
  refine G.no rfl ?_
  refine G.skipK hK34 (fun _ _ h => h) ?_
  refine G.seqK fun K64 hK65 => ?_
  refine G.region ?_
  refine GL.run (j := 1) 1 [2, 50] [(2, pt p3 0), (50, .agg #[.int .i64 0, .int .u8 0, .int .u8 0, .int .u8 0, .int .u8 0, .int .u8 0, .int .u8 0, .int .u8 0, .int .u8 0, .int .u8 0, .int .u8 0, .int .u8 0, .int .u8 0, .int .u8 0, .int .u8 0, .int .u8 0, .int .u8 0, .int .u8 0, .int .u8 0, .int .u8 0, .int .u8 0, .slice none 0 0])] (by kernel_rfl) rfl ?_
  obtain ⟨w66, r67, H68⟩ := H61.stA (P := Try.prog) (o := 0) (vs := [.int .i64 0, .int .u8 0, .int .u8 0, .int .u8 0, .int .u8 0, .int .u8 0, .int .u8 0, .int .u8 0, .int .u8 0, .int .u8 0, .int .u8 0, .int .u8 0, .int .u8 0, .int .u8 0, .int .u8 0, .int .u8 0, .int .u8 0, .int .u8 0, .int .u8 0, .int .u8 0, .int .u8 0, .slice none 0 0]) (ty := 43) (m := 22) 0 rfl (by kernel_rfl) rfl (by simp) (by simp [Value.oneCell'])
  have H68 : Hp w [] [.blk p3 [.int .i64 0, .int .u8 0, .int .u8 0, .int .u8 0, .int .u8 0, .int .u8 0, .int .u8 0, .int .u8 0, .int .u8 0, .int .u8 0, .int .u8 0, .int .u8 0, .int .u8 0, .int .u8 0, .int .u8 0, .int .u8 0, .int .u8 0, .int .u8 0, .int .u8 0, .int .u8 0, .int .u8 0, .slice none 0 0] 43, .blk p13 [.int .i64 1, .int .u8 (x3.toNat : Int), .int .u8 (x4.toNat : Int), .int .u8 (x5.toNat : Int), .int .u8 (x6.toNat : Int), .int .u8 (x7.toNat : Int), .int .u8 (x8.toNat : Int), .int .u8 (x9.toNat : Int), .int .u8 (x10.toNat : Int), .int .u8 (x11.toNat : Int), .int .u8 (x12.toNat : Int), .int .u8 (x13.toNat : Int), .int .u8 (x14.toNat : Int), .int .u8 (x15.toNat : Int), .int .u8 (x16.toNat : Int), .int .u8 (x17.toNat : Int), .int .u8 (x18.toNat : Int), .int .u8 (x19.toNat : Int), .int .u8 (x20.toNat : Int), .int .u8 (x21.toNat : Int), .int .u8 (x22.toNat : Int), .slice none 0 0] 43, .row A22 (([118, 169, 20, x3, x4, x5, x6, x7, x8, x9, x10, x11, x12, x13, x14, x15, x16, x17, x18, x19, x20, x21, x22, 136, 172] : List UInt8).length) c23 5 1 (by8 ([118, 169, 20, x3, x4, x5, x6, x7, x8, x9, x10, x11, x12, x13, x14, x15, x16, x17, x18, x19, x20, x21, x22, 136, 172] : List UInt8)), .row A39 23 c40 5 1 (by8 ([x2, x3, x4, x5, x6, x7, x8, x9, x10, x11, x12, x13, x14, x15, x16, x17, x18, x19, x20, x21, x22, x23, x24] : List UInt8)), .blk p44 [.int .i64 2, .int .u8 0, .int .u8 0, .int .u8 0, .int .u8 0, .int .u8 0, .int .u8 0, .int .u8 0, .int .u8 0, .int .u8 0, .int .u8 0, .int .u8 0, .int .u8 0, .int .u8 0, .int .u8 0, .int .u8 0, .int .u8 0, .int .u8 0, .int .u8 0, .int .u8 0, .int .u8 0, .slice A39 23 c40] 43, .row A53 ((106 :: UInt8.ofNat ([x2, x3, x4, x5, x6, x7, x8, x9, x10, x11, x12, x13, x14, x15, x16, x17, x18, x19, x20, x21, x22, x23, x24] : List UInt8).length :: ([x2, x3, x4, x5, x6, x7, x8, x9, x10, x11, x12, x13, x14, x15, x16, x17, x18, x19, x20, x21, x22, x23, x24] : List UInt8)).length) c54 5 1 (by8 (106 :: UInt8.ofNat ([x2, x3, x4, x5, x6, x7, x8, x9, x10, x11, x12, x13, x14, x15, x16, x17, x18, x19, x20, x21, x22, x23, x24] : List UInt8).length :: ([x2, x3, x4, x5, x6, x7, x8, x9, x10, x11, x12, x13, x14, x15, x16, x17, x18, x19, x20, x21, x22, x23, x24] : List UInt8)))] w66 := H68
  refine GL.semU (j := 2) r67 [2] [(2, pt p3 0)] (by kernel_rfl) rfl rfl rfl ?_
  refine GL.k rfl hK65 (fun _ _ h => h) ?_
  refine G.ret ?_
  intro F_ hF_ hM_
  refine hRet _ _ (bodyPost_1 rfl (RV.cell rfl (H68.ldA (o := 0) (ty := 43) (m := 22) (sub := [.int .i64 0, .int .u8 0, .int .u8 0, .int .u8 0, .int .u8 0, .int .u8 0, .int .u8 0, .int .u8 0, .int .u8 0, .int .u8 0, .int .u8 0, .int .u8 0, .int .u8 0, .int .u8 0, .int .u8 0, .int .u8 0, .int .u8 0, .int .u8 0, .int .u8 0, .int .u8 0, .int .u8 0, .slice none 0 0]) 0 rfl (by kernel_rfl) rfl rfl)) ?_ F_ hF_ hM_)
  exact ⟨rfl, H68.sub (List.nil_sublist _)⟩
def addrB (f : Nat → UInt8) : List UInt8 := [118, 169, 20, f 0, f 1, f 2, f 3, f 4, f 5, f 6, f 7, f 8, f 9, f 10, f 11, f 12, f 13, f 14, f 15, f 16, f 17, f 18, f 19, 136, 172]
def tagB (t : List UInt8) : List UInt8 := 106 :: UInt8.ofNat t.length :: t
theorem lit_of (t : List UInt8) (n : Nat) (h : t.length = n) : ∃ f : Nat → UInt8, t = (List.range n).map f := by
  refine ⟨fun i => t.getD i 0, List.ext_getElem? fun i => ?_⟩
  by_cases hi : i < n
  · rw [List.getElem?_eq_getElem (by omega)]
    simp [hi, List.getD, List.getElem?_eq_getElem (show i < t.length by omega)]
  · rw [List.getElem?_eq_none (by omega), List.getElem?_eq_none (by simp; omega)]
theorem Parse_tag (t : List UInt8) (A : Option Addr) (c : Nat) (w : World) (hr : RdS w A (by8 (106 :: UInt8.ofNat t.length :: t))) (h1 : 1 ≤ t.length) (h40 : t.length ≤ 40) (hc : t.length + 2 ≤ c) :
    Calls Try.prog 11 #[.slice A (106 :: UInt8.ofNat t.length :: t).length c] w fun e w' => ∃ A c, e = .returned (.agg #[.int .i64 2, .int .u8 0, .int .u8 0, .int .u8 0, .int .u8 0, .int .u8 0, .int .u8 0, .int .u8 0, .int .u8 0, .int .u8 0, .int .u8 0, .int .u8 0, .int .u8 0, .int .u8 0, .int .u8 0, .int .u8 0, .int .u8 0, .int .u8 0, .int .u8 0, .int .u8 0, .int .u8 0, .slice A t.length c]) ∧ Hp w [] [.row A t.length c 5 1 (by8 t)] w' := by
  by_cases h23 : t.length = 23
  · obtain ⟨f, rfl⟩ := lit_of t 23 h23
    exact Parse_tag23 (f 0) (f 1) (f 2) (f 3) (f 4) (f 5) (f 6) (f 7) (f 8) (f 9) (f 10) (f 11) (f 12) (f 13) (f 14) (f 15) (f 16) (f 17) (f 18) (f 19) (f 20) (f 21) (f 22) A c w hr (by omega)
  · exact Parse_tagN t A c w hr h1 h40 h23 hc
theorem Parse_none (bs : List UInt8) (A : Option Addr) (c : Nat) (w : World) (hr : RdS w A (by8 bs)) (hc : bs.length ≤ c) (hl : bs.length ≤ 1099511627776) (hna : ∀ f, bs ≠ addrB f) (hnt : ∀ t : List UInt8, 1 ≤ t.length → t.length ≤ 40 → bs ≠ tagB t) :
    Calls Try.prog 11 #[.slice A bs.length c] w fun e w' => e = .returned (.agg #[.int .i64 0, .int .u8 0, .int .u8 0, .int .u8 0, .int .u8 0, .int .u8 0, .int .u8 0, .int .u8 0, .int .u8 0, .int .u8 0, .int .u8 0, .int .u8 0, .int .u8 0, .int .u8 0, .int .u8 0, .int .u8 0, .int .u8 0, .int .u8 0, .int .u8 0, .int .u8 0, .int .u8 0, .slice none 0 0]) ∧ Hp w [] [] w' := by
  by_cases h2 : bs.length ≤ 2
  · exact Parse_short bs A c w h2
  by_cases h25 : bs.length = 25
  · obtain ⟨f, rfl⟩ := lit_of bs 25 h25
    exact Parse_no25 (f 0) (f 1) (f 2) (f 3) (f 4) (f 5) (f 6) (f 7) (f 8) (f 9) (f 10) (f 11) (f 12) (f 13) (f 14) (f 15) (f 16) (f 17) (f 18) (f 19) (f 20) (f 21) (f 22) (f 23) (f 24) A c w hr (by omega) (fun h => hna (fun i => f (i + 3)) h.symm) (fun h => hnt _ (by simp) (by simp) h.symm)
  obtain ⟨y0, y1, t, rfl⟩ : ∃ y0 y1 t, bs = y0 :: y1 :: t := by
    rcases bs with _ | ⟨y0, _ | ⟨y1, t⟩⟩
    · simp at h2
    · simp at h2
    · exact ⟨y0, y1, t, rfl⟩
  simp only [List.length_cons] at h2 h25 hc hl
  by_cases h40 : t.length ≤ 40
  · exact Parse_no3 y0 y1 t A c w hr (by omega) h40 (by omega) (by omega) (fun h => hnt t (by omega) h40 h.symm)
  · exact Parse_no41 y0 y1 t A c w hr (by omega) (by omega) (by omega)
end Go.Proofs.Ytcedmbdahbdmaaa
set_option maxRecDepth 100000
namespace Go.Proofs.Ytcedmbdahbdmaaa
open Go.RowKit
def isA (bs : List UInt8) : Prop := bs.length = 25 ∧ bs.take 3 = [118, 169, 20] ∧ bs.drop 23 = [136, 172]
def isT (bs : List UInt8) : Prop := 3 ≤ bs.length ∧ bs.length ≤ 42 ∧ bs.take 2 = [106, UInt8.ofNat (bs.length - 2)]
instance (bs : List UInt8) : Decidable (isA bs) := by unfold isA; infer_instance
instance (bs : List UInt8) : Decidable (isT bs) := by unfold isT; infer_instance
def lkK (bs : List UInt8) : Nat := if isA bs then 1 else if isT bs then 2 else 0
def lkA (bs : List UInt8) : List UInt8 := if isA bs then (bs.drop 3).take 20 else List.replicate 20 0
def lkT (bs : List UInt8) : List UInt8 := if isA bs then [] else if isT bs then bs.drop 2 else []
def lkC (k : Nat) (ad : List UInt8) (T : Option Addr) (n c : Nat) : List Value := .int .i64 (k : Int) :: (by8 ad ++ [.slice T n c])
theorem lkA_length (bs : List UInt8) : (lkA bs).length = 20 := by
  unfold lkA
  split
  · rename_i h
    simp [h.1]
  · rfl
theorem Parse_calls (bs : List UInt8) (A : Option Addr) (c : Nat) (w : World) (hr : RdS w A (by8 bs)) (hc : bs.length ≤ c) (hl : bs.length ≤ 1099511627776) :
    Calls Try.prog 11 #[.slice A bs.length c] w fun e w' => ∃ T d, e = .returned (.agg (lkC (lkK bs) (lkA bs) T (lkT bs).length d).toArray) ∧ Hp w [] [.row T (lkT bs).length d 5 1 (by8 (lkT bs))] w' := by
  unfold lkK lkA lkT
  by_cases h1 : isA bs
  · rw [if_pos h1, if_pos h1, if_pos h1]
    obtain ⟨hn, h2, h3⟩ := h1
    obtain ⟨g, rfl⟩ := lit_of bs 25 hn
    have h2 : [g 0, g 1, g 2] = [118, 169, 20] := h2
    have h3 : [g 23, g 24] = [136, 172] := h3
    simp only [List.cons.injEq, and_true] at h2 h3
    have e : (List.range 25).map g = [118, 169, 20, g 3, g 4, g 5, g 6, g 7, g 8, g 9, g 10, g 11, g 12, g 13, g 14, g 15, g 16, g 17, g 18, g 19, g 20, g 21, g 22, 136, 172] := by
      show [g 0, g 1, g 2, g 3, g 4, g 5, g 6, g 7, g 8, g 9, g 10, g 11, g 12, g 13, g 14, g 15, g 16, g 17, g 18, g 19, g 20, g 21, g 22, g 23, g 24] = _
      rw [h2.1, h2.2.1, h2.2.2, h3.1, h3.2]
    rw [e] at hr ⊢
    exact (Parse_addr (g 3) (g 4) (g 5) (g 6) (g 7) (g 8) (g 9) (g 10) (g 11) (g 12) (g 13) (g 14) (g 15) (g 16) (g 17) (g 18) (g 19) (g 20) (g 21) (g 22) A c w hr (by simpa using hc)).mono fun e_ w_ ⟨he, hh⟩ => ⟨none, 0, he, hh.rowNil 5 1⟩
  · rw [if_neg h1, if_neg h1, if_neg h1]
    by_cases h2 : isT bs
    · rw [if_pos h2, if_pos h2]
      obtain ⟨h3, h4, h5⟩ := h2
      obtain ⟨y0, y1, t, rfl⟩ : ∃ y0 y1 t, bs = y0 :: y1 :: t := by
        rcases bs with _ | ⟨y0, _ | ⟨y1, t⟩⟩
        · simp at h3
        · simp at h3
        · exact ⟨y0, y1, t, rfl⟩
      simp only [List.length_cons] at h3 h4 hc
      have h5 : [y0, y1] = [106, UInt8.ofNat t.length] := h5
      simp only [List.cons.injEq, and_true] at h5
      obtain ⟨rfl, rfl⟩ := h5
      exact Parse_tag t A c w hr (by omega) (by omega) hc
    · rw [if_neg h2, if_neg h2]
      refine (Parse_none bs A c w hr hc hl (fun f e => h1 ?_) (fun t ht1 ht2 e => h2 ?_)).mono fun e_ w_ ⟨he, hh⟩ => ⟨none, 0, he, hh.rowNil 5 1⟩
      · subst e
        exact ⟨rfl, rfl, rfl⟩
      · subst e
        refine ⟨?_, ?_, ?_⟩
        · simp [tagB]; omega
        · simp [tagB]; omega
        · simp [tagB]
section
variable {k n c : Nat} {ad : List UInt8} {T : Option Addr}
theorem lkC_length (h : ad.length = 20) : (lkC k ad T n c).length = 22 := by simp [lkC, by8_length, h]
theorem lkC_ad (h : ad.length = 20) : ((lkC k ad T n c).drop 1).take 20 = by8 ad := by
  show (by8 ad ++ _).take 20 = _
  exact List.take_left' (by rw [by8_length, h])
theorem lkC_one : ∀ q ∈ lkC k ad T n c, q.oneCell' = true := by
  intro q hq
  simp only [lkC, List.mem_cons, List.mem_append, List.not_mem_nil, or_false] at hq
  rcases hq with rfl | h | rfl
  · rfl
  · exact by8_one _ q h
  · rfl
end
def isK (bs : List UInt8) : Prop := bs.length = 21 ∧ bs[0]? = some 20
instance (bs : List UInt8) : Decidable (isK bs) := by unfold isK; infer_instance
end Go.Proofs.Ytcedmbdahbdmaaa
set_option maxRecDepth 100000
namespace Go.Proofs.Ytcedmbdahbdmaaa
open Go.RowKit
def toA (a : List UInt8) (x : TOut) : Bool := decide (lkK x.lb = 1 ∧ lkA x.lb = a)
theorem Paid1_calls (x : TOut) (a : List UInt8) (p : Nat) (w : World) (ha : a.length = 20) (hok : x.Ok w []) (hl9 : x.lb.length ≤ 1099511627776) (hb : Blk w p (by8 a) 28) : Calls Try.prog 27 #[.agg #[.int .u64 (x.pv : Int), .slice x.B x.lb.length x.lc], pt p 0] w fun e w' => e = .returned (.bool (toA a x)) ∧ Hp w [] [] w' := by
  have hc9 := hok.2.2.1
  refine calls_G (args := [.agg #[.int .u64 (x.pv : Int), .slice x.B x.lb.length x.lc], pt p 0]) Try.func27 rfl Try.ntmps27 rfl ?_
  intro Q0 hRet hNor hPan
  have H := Hp.start w
  have H : Hp w [] [] w := H
  refine G.seqK fun K1 hK2 => ?_
  refine G.region ?_
  obtain ⟨p3, w4, r5, H6⟩ := H.box (P := Try.prog) 40 [.int .u64 (x.pv : Int), .slice x.B x.lb.length x.lc] (.agg #[.int .u64 (x.pv : Int), .slice x.B x.lb.length x.lc]) rfl
  have H6 : Hp w [] [.blk p3 [.int .u64 (x.pv : Int), .slice x.B x.lb.length x.lc] 40] w4 := H6
  refine GL.sem (j := 1) (r5) [1, 2] [(1, pt p 0), (2, pt p3 0)] (by kernel_rfl) (by kernel_rfl) rfl ?_
  refine GL.run (j := 2) 1 [1, 2] [(1, pt p 0), (2, pt p3 0)] (by kernel_rfl) rfl ?_
  refine GL.k rfl hK2 (fun _ _ h => h) ?_
  refine G.seqK fun K7 hK8 => ?_
  refine G.region ?_
  refine GL.run (j := 1) 1 [1, 5] [(1, pt p 0), (5, pt p3 1)] (by kernel_rfl) rfl ?_
  refine GL.sem (j := 2) (H6.ld (o := 1) (ty := 38) (v := .slice x.B x.lb.length x.lc) 0 rfl (by kernel_rfl) rfl) [1, 6] [(1, pt p 0), (6, .slice x.B x.lb.length x.lc)] (by kernel_rfl) (by kernel_rfl) rfl ?_
  refine GL.call (j := 3) (Parse_calls x.lb x.B x.lc w4 (hok.2.1.hp H6) (hc9) (hl9)) (by kernel_rfl) rfl (fun e_ w11 hR => ?_)
  obtain ⟨A9, c10, rfl, H13⟩ := hR
  have H12 : Hp w [] [.blk p3 [.int .u64 (x.pv : Int), .slice x.B x.lb.length x.lc] 40, .row A9 ((lkT x.lb).length) c10 5 1 (by8 (lkT x.lb))] w11 := H6.callNew H13
  refine ⟨_, rfl, [1, 7], [(1, pt p 0), (7, .agg (lkC (lkK x.lb) (lkA x.lb) A9 (lkT x.lb).length c10).toArray)], by kernel_rfl, ?_⟩
  obtain ⟨p14, w15, r16, H17⟩ := H12.alloc (P := Try.prog) 43 (lkC 0 (List.replicate 20 0) none 0 0) (by kernel_rfl)
  have H17 : Hp w [] [.blk p3 [.int .u64 (x.pv : Int), .slice x.B x.lb.length x.lc] 40, .row A9 ((lkT x.lb).length) c10 5 1 (by8 (lkT x.lb)), .blk p14 (lkC 0 (List.replicate 20 0) none 0 0) 43] w15 := H17
  refine GL.sem (j := 4) (r16) [1, 4, 7] [(1, pt p 0), (4, pt p14 0), (7, .agg (lkC (lkK x.lb) (lkA x.lb) A9 (lkT x.lb).length c10).toArray)] (by kernel_rfl) (by kernel_rfl) rfl ?_
  obtain ⟨w18, r19, H20⟩ := H17.stA (P := Try.prog) (o := 0) (vs := lkC (lkK x.lb) (lkA x.lb) A9 (lkT x.lb).length c10) (ty := 43) (m := 22) 2 rfl (by kernel_rfl) (lkC_length (lkA_length _)) (by rw [Nat.zero_add, lkC_length rfl]; exact Nat.le_refl _) lkC_one
  rw [tx_whole (lkC_length rfl)] at H20
  have H20 : Hp w [] [.blk p3 [.int .u64 (x.pv : Int), .slice x.B x.lb.length x.lc] 40, .row A9 ((lkT x.lb).length) c10 5 1 (by8 (lkT x.lb)), .blk p14 (lkC (lkK x.lb) (lkA x.lb) A9 (lkT x.lb).length c10) 43] w18 := H20
  refine GL.semU (j := 5) r19 [1, 4] [(1, pt p 0), (4, pt p14 0)] (by kernel_rfl) rfl rfl rfl ?_
  refine GL.k rfl hK8 (fun _ _ h => h) ?_
  refine G.seqK fun K21 hK22 => ?_
  refine G.region ?_
  refine GL.run (j := 1) 1 [1, 4, 8] [(1, pt p 0), (4, pt p14 0), (8, pt p14 0)] (by kernel_rfl) rfl ?_
  refine GL.sem (j := 2) (H20.ld (o := 0) (ty := 41) (v := .int .i64 (((lkK x.lb) : Nat) : Int)) 2 rfl (by kernel_rfl) (rfl)) [1, 4, 9] [(1, pt p 0), (4, pt p14 0), (9, .int .i64 (((lkK x.lb) : Nat) : Int))] (by kernel_rfl) (by kernel_rfl) rfl ?_
  refine GL.run (j := 4) 2 [1, 4, 11] [(1, pt p 0), (4, pt p14 0), (11, .bool ((((lkK x.lb) : Nat) : Int) == 1))] (by kernel_rfl) rfl ?_
  cases hb23 : ((((lkK x.lb) : Nat) : Int) == 1)
  · skip
    have hb23f := ne_of_beq_false hb23
    refine GL.run (j := 10) 6 [3] [(3, .bool false)] (by kernel_rfl) rfl ?_
    refine GL.k rfl hK22 (fun _ _ h => h) ?_
    refine G.ret ?_
    intro F_ hF_ hM_
    refine hRet _ _ (bodyPost_1 rfl (RV.tmp rfl) ?_ F_ hF_ hM_)
    have e0 : (false : Bool) = toA a x := by
      unfold toA; rw [Bool.eq_iff_iff]; simp only [decide_eq_true_eq, Bool.false_eq_true, false_iff]; omega
    rw [e0]
    exact ⟨rfl, H20.sub (List.nil_sublist _)⟩
  · skip
    have hb23f := eq_of_beq hb23
    refine GL.run (j := 5) 1 [1, 11, 12] [(1, pt p 0), (11, .bool true), (12, pt p14 1)] (by kernel_rfl) rfl ?_
    refine GL.sem (j := 6) (H20.ldA (o := 1) (ty := 28) (m := 20) (sub := by8 (lkA x.lb)) 2 rfl (by kernel_rfl) (lkC_ad (lkA_length _)) (by rw [by8_length, (lkA_length _)])) [1, 11, 13] [(1, pt p 0), (11, .bool true), (13, .agg (by8 (lkA x.lb)).toArray)] (by kernel_rfl) (by kernel_rfl) rfl ?_
    refine GL.sem (j := 7) (run_ldA (P := Try.prog) (ty := 28) (m := 20) (b := p) (o := 0) (sub := by8 a) (by kernel_rfl) (hb.old H20) (tx_sub (by rw [by8_length, ha])) (by rw [by8_length, ha])) [11, 13, 14] [(11, .bool true), (13, .agg (by8 (lkA x.lb)).toArray), (14, .agg (by8 a).toArray)] (by kernel_rfl) (by kernel_rfl) rfl ?_
    refine GL.sem (j := 8) (run_tx_eql (P := Try.prog) (t := 28) (n := 20) (x := (.tmp 13)) (y := (.tmp 14)) (by kernel_rfl) (lkA x.lb) a (lkA_length _) ha _) [11, 15] [(11, .bool true), (15, .bool (decide ((lkA x.lb) = a)))] (by kernel_rfl) (by kernel_rfl) rfl ?_
    refine GL.run (j := 10) 2 [3] [(3, .bool (decide ((lkA x.lb) = a)))] (by kernel_rfl) rfl ?_
    refine GL.k rfl hK22 (fun _ _ h => h) ?_
    refine G.ret ?_
    intro F_ hF_ hM_
    refine hRet _ _ (bodyPost_1 rfl (RV.tmp rfl) ?_ F_ hF_ hM_)
    have e0 : ((decide ((lkA x.lb) = a)) : Bool) = toA a x := by
      unfold toA; rw [decide_eq_decide]; exact ⟨fun h => ⟨by omega, h⟩, fun h => h.2⟩
    rw [e0]
    exact ⟨rfl, H20.sub (List.nil_sublist _)⟩
end Go.Proofs.Ytcedmbdahbdmaaa
namespace Go.Proofs.Ytcedmbdahbdmaaa
open Go.RowKit
theorem RdS.putObj {W : World} {l : Nat} {s : Loop} {o : Obj} {A : Option Addr} {xs : List Value} (hl : W.heap[l]? = some (.loop s)) (h : RdS W A xs) : RdS (W.putObj l o) A xs := by
  rcases h with h | ⟨a, hA, ha, hc⟩
  · exact .inl h
  · refine .inr ⟨a, hA, by simpa [World.putObj] using ha, fun j v hv => ?_⟩
    have h1 := hc j v hv
    have hb : (a.add j).block ≠ l := by
      intro e
      simp only [World.cell?] at h1
      rw [e, hl] at h1
      cases h1
    rw [World.cell?_of_block (w := W) (World.putObj_heap_other hb)]
    exact h1
end Go.Proofs.Ytcedmbdahbdmaaa
set_option maxRecDepth 100000
namespace Go.Proofs.Ytcedmbdahbdmaaa
open Go.RowKit
def AAddE (a b : Nat) : Nat := if MX < a ∨ MX < b then 1 else if MX < a + b then 4 else 0
def AAddV (a b : Nat) : Nat := if MX < a ∨ MX < b then 0 else if MX < a + b then 0 else a + b
theorem AAdd_cases (a b : Nat) : ((MX < a ∨ MX < b) ∧ AAddE a b = 1 ∧ AAddV a b = 0) ∨ (¬ (MX < a ∨ MX < b) ∧ MX < a + b ∧ AAddE a b = 4 ∧ AAddV a b = 0) ∨ (¬ (MX < a ∨ MX < b) ∧ ¬ MX < a + b ∧ AAddE a b = 0 ∧ AAddV a b = a + b) := by
  unfold AAddE AAddV
  repeat' split
  all_goals omega
theorem AAdd_calls (a b : Nat) (ha : a < K) (hb : b < K) (w : World) : Calls Try.prog 12 #[.int .u64 (a : Int), .int .u64 (b : Int)] w fun e w' => e = .returned (.tuple #[.int .u64 ((AAddV a b : Nat) : Int), .int .i64 ((AAddE a b : Nat) : Int)]) ∧ Hp w [] [] w' := by
  have hMX : MX = 4611686018427387904 := rfl
  have hK0 : K = 18446744073709551616 := rfl
  have hK40 : K4 = 115792089237316195423570985008687907853269984665640564039457584007913129639936 := rfl
  refine calls_G (args := [.int .u64 (a : Int), .int .u64 (b : Int)]) Try.func12 rfl Try.ntmps12 rfl ?_
  intro Q0 hRet hNor hPan
  have H := Hp.start w
  have H : Hp w [] [] w := H
  refine G.seqK fun K1 hK2 => ?_
  refine G.region ?_
  refine GL.run (j := 2) 2 [0, 1] [(0, .int .u64 (a : Int)), (1, .int .u64 (b : Int))] (by kernel_rfl) rfl ?_
  refine GL.k rfl hK2 (fun _ _ h => h) ?_
  refine G.seqK fun K3 hK4 => ?_
  refine G.block ?_
  refine G.seqK fun K5 hK6 => ?_
  refine G.region ?_
  refine GL.run (j := 1) 1 [0, 1, 7] [(0, .int .u64 (a : Int)), (1, .int .u64 (b : Int)), (7, .int .u64 (a : Int))] (by kernel_rfl) rfl ?_
  refine GL.call (j := 2) (Right_calls a w) (by kernel_rfl) rfl (fun e_ w7 hR => ?_)
  obtain ⟨rfl, H9⟩ := hR
  have H8 : Hp w [] [] w7 := H.callNil H9
  refine ⟨_, rfl, [0, 1, 8], [(0, .int .u64 (a : Int)), (1, .int .u64 (b : Int)), (8, .bool (decide (a ≤ 4611686018427387904)))], by kernel_rfl, ?_⟩
  refine GL.run (j := 4) 2 [0, 1, 10] [(0, .int .u64 (a : Int)), (1, .int .u64 (b : Int)), (10, .bool (!(decide (a ≤ 4611686018427387904))))] (by kernel_rfl) rfl ?_
  cases hb10 : (decide (a ≤ 4611686018427387904))
  · skip
    have hb10f := of_decide_eq_false hb10
    refine GL.run (j := 9) 5 [0, 1, 6] [(0, .int .u64 (a : Int)), (1, .int .u64 (b : Int)), (6, .bool true)] (by kernel_rfl) rfl ?_
    refine GL.k rfl hK6 (fun _ _ h => h) ?_
    refine G.yes rfl ?_
    refine G.seqK fun K11 hK12 => ?_
    refine G.region ?_
    refine GL.run (j := 2) 2 [4, 5] [(4, .int .u64 0), (5, .int .i64 1)] (by kernel_rfl) rfl ?_
    refine GL.k rfl hK12 (fun _ _ h => h) ?_
    refine G.ret ?_
    intro F_ hF_ hM_
    refine hRet _ _ (bodyPost_2 rfl (RV.tmp rfl) (RV.tmp rfl) ?_ F_ hF_ hM_)
    have eVE : AAddV a b = 0 ∧ AAddE a b = 1 := by
      unfold AAddV AAddE
      simp only [MX] at *
      constructor <;> repeat' split
      all_goals omega
    rw [eVE.1, eVE.2]
    exact ⟨rfl, H8.sub (List.nil_sublist _)⟩
  · skip
    have hb10f := of_decide_eq_true hb10
    refine GL.run (j := 5) 1 [0, 1, 10, 11] [(0, .int .u64 (a : Int)), (1, .int .u64 (b : Int)), (10, .bool false), (11, .int .u64 (b : Int))] (by kernel_rfl) rfl ?_
    refine GL.call (j := 6) (Right_calls b w7) (by kernel_rfl) rfl (fun e_ w13 hR => ?_)
    obtain ⟨rfl, H15⟩ := hR
    have H14 : Hp w [] [] w13 := H8.callNil H15
    refine ⟨_, rfl, [0, 1, 10, 12], [(0, .int .u64 (a : Int)), (1, .int .u64 (b : Int)), (10, .bool false), (12, .bool (decide (b ≤ 4611686018427387904)))], by kernel_rfl, ?_⟩
    refine GL.run (j := 9) 3 [0, 1, 6] [(0, .int .u64 (a : Int)), (1, .int .u64 (b : Int)), (6, .bool (!(decide (b ≤ 4611686018427387904))))] (by kernel_rfl) rfl ?_
    refine GL.k rfl hK6 (fun _ _ h => h) ?_
    cases hb16 : (decide (b ≤ 4611686018427387904))
    · skip
      have hb16f := of_decide_eq_false hb16
      refine G.yes rfl ?_
      refine G.seqK fun K17 hK18 => ?_
      refine G.region ?_
      refine GL.run (j := 2) 2 [4, 5] [(4, .int .u64 0), (5, .int .i64 1)] (by kernel_rfl) rfl ?_
      refine GL.k rfl hK18 (fun _ _ h => h) ?_
      refine G.ret ?_
      intro F_ hF_ hM_
      refine hRet _ _ (bodyPost_2 rfl (RV.tmp rfl) (RV.tmp rfl) ?_ F_ hF_ hM_)
      have eVE : AAddV a b = 0 ∧ AAddE a b = 1 := by
        unfold AAddV AAddE
        simp only [MX] at *
        constructor <;> repeat' split
        all_goals omega
      rw [eVE.1, eVE.2]
      exact ⟨rfl, H14.sub (List.nil_sublist _)⟩
    · skip
      have hb16f := of_decide_eq_true hb16
      refine G.no rfl ?_
      refine G.seqK fun K19 hK20 => ?_
      refine G.region ?_
      refine GL.run (j := 3) 3 [0, 1, 18] [(0, .int .u64 (a : Int)), (1, .int .u64 (b : Int)), (18, .int .u64 (IntKind.u64.wrap ((a : Int) + (b : Int))))] (by kernel_rfl) rfl ?_
      have e21 : (IntKind.u64.wrap ((a : Int) + (b : Int))) = ((a + b : Nat) : Int) := n_add' (a := a) (b := b) (by omega)
      refine GL.eq (M' := [(0, .int .u64 (a : Int)), (1, .int .u64 (b : Int)), (18, .int .u64 ((a + b : Nat) : Int))]) (by rw [e21]) ?_
      clear e21
      refine GL.call (j := 4) (Right_calls (a + b) w13) (by kernel_rfl) rfl (fun e_ w22 hR => ?_)
      obtain ⟨rfl, H24⟩ := hR
      have H23 : Hp w [] [] w22 := H14.callNil H24
      refine ⟨_, rfl, [0, 1, 19], [(0, .int .u64 (a : Int)), (1, .int .u64 (b : Int)), (19, .bool (decide (a + b ≤ 4611686018427387904)))], by kernel_rfl, ?_⟩
      refine GL.run (j := 6) 2 [0, 1, 15] [(0, .int .u64 (a : Int)), (1, .int .u64 (b : Int)), (15, .bool (!(decide (a + b ≤ 4611686018427387904))))] (by kernel_rfl) rfl ?_
      refine GL.k rfl hK20 (fun _ _ h => h) ?_
      cases hb25 : (decide (a + b ≤ 4611686018427387904))
      · skip
        have hb25f := of_decide_eq_false hb25
        refine G.yes rfl ?_
        refine G.seqK fun K26 hK27 => ?_
        refine G.region ?_
        refine GL.run (j := 2) 2 [4, 5] [(4, .int .u64 0), (5, .int .i64 4)] (by kernel_rfl) rfl ?_
        refine GL.k rfl hK27 (fun _ _ h => h) ?_
        refine G.ret ?_
        intro F_ hF_ hM_
        refine hRet _ _ (bodyPost_2 rfl (RV.tmp rfl) (RV.tmp rfl) ?_ F_ hF_ hM_)
        have eVE : AAddV a b = 0 ∧ AAddE a b = 4 := by
          unfold AAddV AAddE
          simp only [MX] at *
          constructor <;> repeat' split
          all_goals omega
        rw [eVE.1, eVE.2]
        exact ⟨rfl, H23.sub (List.nil_sublist _)⟩
      · skip
        have hb25f := of_decide_eq_true hb25
        refine G.no rfl ?_
        refine G.skipK hK4 (fun _ _ h => h) ?_
        refine G.seqK fun K28 hK29 => ?_
        refine G.region ?_
        refine GL.run (j := 5) 5 [4, 5] [(4, .int .u64 (IntKind.u64.wrap ((a : Int) + (b : Int)))), (5, .int .i64 0)] (by kernel_rfl) rfl ?_
        have e30 : (IntKind.u64.wrap ((a : Int) + (b : Int))) = ((a + b : Nat) : Int) := n_add' (a := a) (b := b) (by omega)
        refine GL.eq (M' := [(4, .int .u64 ((a + b : Nat) : Int)), (5, .int .i64 0)]) (by rw [e30]) ?_
        clear e30
        refine GL.k rfl hK29 (fun _ _ h => h) ?_
        refine G.ret ?_
        intro F_ hF_ hM_
        refine hRet _ _ (bodyPost_2 rfl (RV.tmp rfl) (RV.tmp rfl) ?_ F_ hF_ hM_)
        have eVE : AAddV a b = a + b ∧ AAddE a b = 0 := by
          unfold AAddV AAddE
          simp only [MX] at *
          constructor <;> repeat' split
          all_goals omega
        rw [eVE.1, eVE.2]
        exact ⟨rfl, H23.sub (List.nil_sublist _)⟩
def tot : List Nat → Nat → Nat × Nat
  | [], s => (0, s)
  | a :: l, s => if MX < a then (1, 0) else if MX < s + a then (4, 0) else tot l (s + a)
theorem tot_step {ls : List Nat} {k x s : Nat} (h : ls[k]? = some x) : tot (ls.drop k) s = if MX < x then (1, 0) else if MX < s + x then (4, 0) else tot (ls.drop (k + 1)) (s + x) := by
  obtain ⟨hk, hx⟩ := List.getElem?_eq_some_iff.1 h
  rw [List.drop_eq_getElem_cons hk, hx]
  rfl
theorem tot_end {ls : List Nat} {s : Nat} : tot (ls.drop ls.length) s = (0, s) := by rw [List.drop_length]; rfl
theorem Total_calls (ls : List Nat) (hls : ∀ x ∈ ls, x < K) (gf : Nat) (lb : Array Value) (Rd : World → Prop) (he : ∀ args w, (callFunc gf args).run Try.prog w = .ok (.enter gf args) w) (hit : Iter Try.prog gf lb ls.length (fun k => #[.int .u64 ((ls.getD k 0 : Nat) : Int)]) Rd) (w : World) (hRd : ∀ W, Below w.heap.size w W → Rd W) :
    Calls Try.prog 54 #[.func (.func gf) #[] lb] w fun e w' => e = .returned (.tuple #[.int .u64 (((tot ls 0).2 : Nat) : Int), .int .i64 (((tot ls 0).1 : Nat) : Int)]) ∧ Hp w [] [] w' := by
  have hMX : MX = 4611686018427387904 := rfl
  have hK0 : K = 18446744073709551616 := rfl
  refine calls_R (args := [.func (.func gf) #[] lb]) Try.func54 rfl Try.ntmps54 rfl ?_
  intro Q0 hRet hNor
  have H := Hp.start w
  have H : Hp w [] [] w := H
  refine RG.seqK fun K1 hK2 => ?_
  refine RG.region (by kernel_rfl) ?_
  obtain ⟨p3, w4, r5, H6⟩ := H.alloc (P := Try.prog) 32 [.int .u64 0] (by kernel_rfl)
  have H6 : Hp w [] [.blk p3 [.int .u64 0] 32] w4 := H6
  refine RL.sem (j := 1) (r5) [0, 2] [(0, .func (.func gf) #[] lb), (2, pt p3 0)] (by kernel_rfl) (by kernel_rfl) rfl ?_
  obtain ⟨p7, w8, r9, H10⟩ := H6.alloc (P := Try.prog) 33 [.int .i64 0] (by kernel_rfl)
  have H10 : Hp w [] [.blk p3 [.int .u64 0] 32, .blk p7 [.int .i64 0] 33] w8 := H10
  refine RL.sem (j := 2) (r9) [0, 2, 3] [(0, .func (.func gf) #[] lb), (2, pt p3 0), (3, pt p7 0)] (by kernel_rfl) (by kernel_rfl) rfl ?_
  refine RL.k rfl hK2 (fun _ _ h => h) ?_
  refine RG.seqK fun K11 hK12 => ?_
  refine RG.region (by kernel_rfl) ?_
  obtain ⟨p13, w14, r15, H16⟩ := H10.alloc (P := Try.prog) 32 [.int .u64 0] (by kernel_rfl)
  have H16 : Hp w [] [.blk p3 [.int .u64 0] 32, .blk p7 [.int .i64 0] 33, .blk p13 [.int .u64 0] 32] w14 := H16
  refine RL.sem (j := 1) (r15) [0, 2, 3, 4] [(0, .func (.func gf) #[] lb), (2, pt p3 0), (3, pt p7 0), (4, pt p13 0)] (by kernel_rfl) (by kernel_rfl) rfl ?_
  refine RL.k rfl hK12 (fun _ _ h => h) ?_
  refine RG.seqK fun K17 hK18 => ?_
  refine RG.seqK fun K19 hK20 => ?_
  refine RG.region (by kernel_rfl) ?_
  refine RL.run (j := 1) 1 [2, 3, 4, 8] [(2, pt p3 0), (3, pt p7 0), (4, pt p13 0), (8, .func (.func gf) #[] lb)] (by kernel_rfl) rfl ?_
  refine RL.k rfl hK20 (fun _ _ h => h) ?_
  refine RG.block ?_
  refine RG.fit [2, 3, 4, 8] (M' := [(2, pt p3 0), (3, pt p7 0), (4, pt p13 0), (8, .func (.func gf) #[] lb)]) (by kernel_rfl) ?_
  refine RG.range H16 (gf := gf) (lb := lb) rfl he (Xt := Nat) (fun k s => s ≤ MX ∧ tot ls 0 = tot (ls.drop k) s) (fun k s => [.blk p3 [.int .u64 0] 32, .blk p7 [.int .i64 0] 33, .blk p13 [.int .u64 (s : Int)] 32]) (fun s => tot ls 0 = (s, 0)) (fun s => [.blk p3 [.int .u64 0] 32, .blk p7 [.int .i64 (s : Int)] 33]) (N := ls.length) (enc := fun k => #[.int .u64 ((ls.getD k 0 : Nat) : Int)]) (hit) (fun _ => rfl) 0 ⟨Nat.zero_le _, by rw [List.drop_zero]⟩ rfl (fun k s E W hx HW => hRd W (HW.sub (List.nil_sublist _)).below) (fun k => [(9, .int .u64 ((ls.getD k 0 : Nat) : Int)), (2, pt p3 0), (3, pt p7 0), (4, pt p13 0), (8, .func (.func gf) #[] lb)]) (fun _ => rfl) ?_ ?_ ?_
  · skip
    rintro D24 l25 oR26 oB27 k s w21 K28 hk29 hx22 H23 hK30
    have H23 : Hp w [] [.blk p3 [.int .u64 0] 32, .blk p7 [.int .i64 0] 33, .blk p13 [.int .u64 (s : Int)] 32, .obj D24 DF, .obj l25 oR26] w21 := H23
    obtain ⟨hs1, hs2⟩ := hx22
    have hdx := getD_some hk29
    have hst := tot_step (s := s) hdx
    have hxK := hls _ (List.mem_of_getElem? hdx)
    refine RG.region (by kernel_rfl) ?_
    refine RL.run (j := 1) 1 [2, 3, 4, 5] [(2, pt p3 0), (3, pt p7 0), (4, pt p13 0), (5, .int .u64 ((ls.getD k 0 : Nat) : Int))] (by kernel_rfl) rfl ?_
    refine RL.done rfl (fun F_ hF_ hM_ => hK30 F_ _ [.blk p3 [.int .u64 0] 32, .blk p7 [.int .i64 0] 33, .blk p13 [.int .u64 (s : Int)] 32] _ hF_ hM_ H23 ?_)
    intro w31 H32
    have H32 : Hp w [] [.blk p3 [.int .u64 0] 32, .blk p7 [.int .i64 0] 33, .blk p13 [.int .u64 (s : Int)] 32, .obj D24 DF, .obj l25 oB27] w31 := H32
    refine RG.block ?_
    refine RG.seqK fun K33 hK34 => ?_
    refine RG.region (by kernel_rfl) ?_
    refine RL.sem (j := 1) (H32.ld (o := 0) (ty := 32) (v := .int .u64 (s : Int)) 2 rfl (by kernel_rfl) rfl) [2, 3, 4, 5, 11] [(2, pt p3 0), (3, pt p7 0), (4, pt p13 0), (5, .int .u64 ((ls.getD k 0 : Nat) : Int)), (11, .int .u64 (s : Int))] (by kernel_rfl) (by kernel_rfl) rfl ?_
    refine RL.run (j := 2) 1 [2, 3, 4, 11, 12] [(2, pt p3 0), (3, pt p7 0), (4, pt p13 0), (11, .int .u64 (s : Int)), (12, .int .u64 ((ls.getD k 0 : Nat) : Int))] (by kernel_rfl) rfl ?_
    refine RL.call (j := 3) (AAdd_calls s (ls.getD k 0) (show s < K by omega) hxK w31) (by kernel_rfl) rfl (fun e_ w35 hR => ?_)
    obtain ⟨rfl, H37⟩ := hR
    have H36 : Hp w [] [.blk p3 [.int .u64 0] 32, .blk p7 [.int .i64 0] 33, .blk p13 [.int .u64 (s : Int)] 32, .obj D24 DF, .obj l25 oB27] w35 := H32.callNil H37
    refine ⟨_, rfl, [2, 3, 4, 13], [(2, pt p3 0), (3, pt p7 0), (4, pt p13 0), (13, .tuple #[.int .u64 (((AAddV s (ls.getD k 0)) : Nat) : Int), .int .i64 (((AAddE s (ls.getD k 0)) : Nat) : Int)])], by kernel_rfl, ?_⟩
    refine RL.run (j := 8) 5 [2, 3, 4, 6, 7] [(2, pt p3 0), (3, pt p7 0), (4, pt p13 0), (6, .int .u64 (((AAddV s (ls.getD k 0)) : Nat) : Int)), (7, .int .i64 (((AAddE s (ls.getD k 0)) : Nat) : Int))] (by kernel_rfl) rfl ?_
    refine RL.k rfl hK34 (fun _ _ h => h) ?_
    refine RG.seqK fun K38 hK39 => ?_
    refine RG.seqK fun K40 hK41 => ?_
    refine RG.region (by kernel_rfl) ?_
    refine RL.run (j := 2) 2 [2, 3, 4, 6, 7, 17] [(2, pt p3 0), (3, pt p7 0), (4, pt p13 0), (6, .int .u64 (((AAddV s (ls.getD k 0)) : Nat) : Int)), (7, .int .i64 (((AAddE s (ls.getD k 0)) : Nat) : Int)), (17, .bool ((((AAddE s (ls.getD k 0)) : Nat) : Int) != 0))] (by kernel_rfl) rfl ?_
    refine RL.k rfl hK41 (fun _ _ h => h) ?_
    cases hb42 : ((((AAddE s (ls.getD k 0)) : Nat) : Int) != 0)
    · skip
      have hb42f : (((AAddE s (ls.getD k 0)) : Nat) : Int) = 0 := bne_eq_false_iff_eq.1 hb42
      refine RG.no rfl ?_
      refine RG.skipK hK39 (fun _ _ h => h) ?_
      refine RG.region (by kernel_rfl) ?_
      refine RL.run (j := 1) 1 [4, 19] [(4, pt p13 0), (19, .int .u64 (((AAddV s (ls.getD k 0)) : Nat) : Int))] (by kernel_rfl) rfl ?_
      obtain ⟨w43, r44, H45⟩ := H36.st (P := Try.prog) (o := 0) (ty := 32) (v := .int .u64 (((AAddV s (ls.getD k 0)) : Nat) : Int)) 2 rfl (by kernel_rfl) (by simp) rfl
      have H45 : Hp w [] [.blk p3 [.int .u64 0] 32, .blk p7 [.int .i64 0] 33, .blk p13 [.int .u64 (((AAddV s (ls.getD k 0)) : Nat) : Int)] 32, .obj D24 DF, .obj l25 oB27] w43 := H45
      refine RL.semU (j := 2) r44 [] [] (by kernel_rfl) rfl rfl rfl ?_
      have hA1 : AAddV s (ls.getD k 0) ≤ MX := by rcases AAdd_cases s (ls.getD k 0) with h | h | h <;> omega
      have hA2 : tot ls 0 = tot (ls.drop (k + 1)) (AAddV s (ls.getD k 0)) := by rcases AAdd_cases s (ls.getD k 0) with h | h | h <;> first | omega | (rw [hs2, hst, if_neg (by omega), if_neg (by omega), h.2.2.2])
      exact RL.done rfl (fun F_ hF_ hM_ => ⟨(AAddV s (ls.getD k 0)), ⟨hA1, hA2⟩, H45⟩)
    · skip
      have hb42f : (((AAddE s (ls.getD k 0)) : Nat) : Int) ≠ 0 := bne_iff_ne.1 hb42
      refine RG.yes rfl ?_
      refine RG.seqK fun K46 hK47 => ?_
      refine RG.region (by kernel_rfl) ?_
      refine RL.run (j := 1) 1 [2, 3, 18] [(2, pt p3 0), (3, pt p7 0), (18, .int .i64 (((AAddE s (ls.getD k 0)) : Nat) : Int))] (by kernel_rfl) rfl ?_
      obtain ⟨w48, r49, H50⟩ := H36.st (P := Try.prog) (o := 0) (ty := 32) (v := .int .u64 0) 0 rfl (by kernel_rfl) (by simp) rfl
      have H50 : Hp w [] [.blk p3 [.int .u64 0] 32, .blk p7 [.int .i64 0] 33, .blk p13 [.int .u64 (s : Int)] 32, .obj D24 DF, .obj l25 oB27] w48 := H50
      refine RL.semU (j := 2) r49 [2, 3, 18] [(2, pt p3 0), (3, pt p7 0), (18, .int .i64 (((AAddE s (ls.getD k 0)) : Nat) : Int))] (by kernel_rfl) rfl rfl rfl ?_
      obtain ⟨w51, r52, H53⟩ := H50.st (P := Try.prog) (o := 0) (ty := 33) (v := .int .i64 (((AAddE s (ls.getD k 0)) : Nat) : Int)) 1 rfl (by kernel_rfl) (by simp) rfl
      have H53 : Hp w [] [.blk p3 [.int .u64 0] 32, .blk p7 [.int .i64 (((AAddE s (ls.getD k 0)) : Nat) : Int)] 33, .blk p13 [.int .u64 (s : Int)] 32, .obj D24 DF, .obj l25 oB27] w51 := H53
      refine RL.semU (j := 3) r52 [2, 3] [(2, pt p3 0), (3, pt p7 0)] (by kernel_rfl) rfl rfl rfl ?_
      refine RL.k rfl hK47 (fun _ _ h => h) ?_
      refine RG.ret ?_
      have H54 : Hp w [] [.blk p3 [.int .u64 0] 32, .blk p7 [.int .i64 (((AAddE s (ls.getD k 0)) : Nat) : Int)] 33, .obj D24 DF, .obj l25 oB27] w51 := H53.sub (List.Sublist.cons_cons _ (List.Sublist.cons_cons _ (List.Sublist.cons _ (List.Sublist.cons_cons _ (List.Sublist.cons_cons _ (List.Sublist.slnil))))))
      intro F_ hF_ hM_
      exact ⟨(AAddE s (ls.getD k 0)), (by rcases AAdd_cases s (ls.getD k 0) with h | h | h <;> first | omega | (rw [hs2, hst, if_pos (by omega), h.2.1]) | (rw [hs2, hst, if_neg (by omega), if_pos (by omega), h.2.2.1])), H54⟩
  · skip
    rintro D58 s w55 hx56 H57
    refine RG.kk hK18 (fun _ _ h => h) ?_
    have H57 : Hp w [] [.blk p3 [.int .u64 0] 32, .blk p7 [.int .i64 0] 33, .blk p13 [.int .u64 (s : Int)] 32, .obj D58 DF] w55 := H57
    have ht : tot ls 0 = (0, s) := by rw [hx56.2, tot_end]
    refine RG.seqK fun K59 hK60 => ?_
    refine RG.region (by kernel_rfl) ?_
    refine RL.sem (j := 1) (H57.ld (o := 0) (ty := 32) (v := .int .u64 (s : Int)) 2 rfl (by kernel_rfl) rfl) [2, 3, 20] [(2, pt p3 0), (3, pt p7 0), (20, .int .u64 (s : Int))] (by kernel_rfl) (by kernel_rfl) rfl ?_
    obtain ⟨w61, r62, H63⟩ := H57.st (P := Try.prog) (o := 0) (ty := 32) (v := .int .u64 (s : Int)) 0 rfl (by kernel_rfl) (by simp) rfl
    have H63 : Hp w [] [.blk p3 [.int .u64 (s : Int)] 32, .blk p7 [.int .i64 0] 33, .blk p13 [.int .u64 (s : Int)] 32, .obj D58 DF] w61 := H63
    refine RL.semU (j := 2) r62 [2, 3] [(2, pt p3 0), (3, pt p7 0)] (by kernel_rfl) rfl rfl rfl ?_
    obtain ⟨w64, r65, H66⟩ := H63.st (P := Try.prog) (o := 0) (ty := 33) (v := .int .i64 0) 1 rfl (by kernel_rfl) (by simp) rfl
    have H66 : Hp w [] [.blk p3 [.int .u64 (s : Int)] 32, .blk p7 [.int .i64 0] 33, .blk p13 [.int .u64 (s : Int)] 32, .obj D58 DF] w64 := H66
    refine RL.semU (j := 3) r65 [2, 3] [(2, pt p3 0), (3, pt p7 0)] (by kernel_rfl) rfl rfl rfl ?_
    refine RL.k rfl hK60 (fun _ _ h => h) ?_
    refine RG.ret ?_
    have hD67 := H66.objAt 3 rfl
    have H68 : Hp w [] [.blk p3 [.int .u64 (s : Int)] 32, .blk p7 [.int .i64 0] 33, .blk p13 [.int .u64 (s : Int)] 32, .obj D58 (.deferred none)] (World.putObj w64 D58 (.deferred none)) := H66.putObj 3 (.deferred none) rfl
    intro F_ hF_ hM_
    refine hRet _ _ (postK_2 hD67 rfl (RV.cell rfl (H68.ld (o := 0) (ty := 32) (v := .int .u64 (s : Int)) 0 rfl (by kernel_rfl) rfl)) (RV.cell rfl (H68.ld (o := 0) (ty := 33) (v := .int .i64 0) 1 rfl (by kernel_rfl) rfl)) ?_ F_ hF_ hM_)
    rw [ht]
    exact ⟨rfl, H68.sub (List.nil_sublist _)⟩
  · skip
    rintro D72 s w69 hx70 H71
    intro F_ hF_ hM_
    have H71 : Hp w [] [.blk p3 [.int .u64 0] 32, .blk p7 [.int .i64 (s : Int)] 33, .obj D72 DF] w69 := H71
    have ht : tot ls 0 = (s, 0) := hx70
    have hD73 := H71.objAt 2 rfl
    have H74 : Hp w [] [.blk p3 [.int .u64 0] 32, .blk p7 [.int .i64 (s : Int)] 33, .obj D72 (.deferred none)] (World.putObj w69 D72 (.deferred none)) := H71.putObj 2 (.deferred none) rfl
    refine hRet _ _ (postK_2 hD73 rfl (RV.cell rfl (H74.ld (o := 0) (ty := 32) (v := .int .u64 0) 0 rfl (by kernel_rfl) rfl)) (RV.cell rfl (H74.ld (o := 0) (ty := 33) (v := .int .i64 (s : Int)) 1 rfl (by kernel_rfl) rfl)) ?_ F_ hF_ hM_)
    rw [ht]
    exact ⟨rfl, H74.sub (List.nil_sublist _)⟩
end Go.Proofs.Ytcedmbdahbdmaaa
set_option maxRecDepth 100000
namespace Go.Proofs.Ytcedmbdahbdmaaa
open Go.RowKit
theorem paysA_iter (outs : List TOut) (B : Option Addr) (cb : Nat) (hsh : ∀ x ∈ outs, x.lb.length ≤ 600) (hno : outs.length ≤ maxLen) (a : List UInt8) (ha : a.length = 20) (pa : Nat) (b1 b2 : Nat) : Iter Try.prog 55 #[pt b1 0, pt b2 0] (outs.filter (toA a)).length (fun k => #[.int .u64 (((payL (toA a) outs).getD k 0 : Nat) : Int)]) (fun W => W.cell? ⟨b1, 2, none⟩ = some (.slice B outs.length cb) ∧ W.cell? ⟨b2, 0, none⟩ = some (.func (.func 27) #[] #[pt pa 0]) ∧ RdS W B (outsC outs) ∧ (∀ x ∈ outs, x.Ok W []) ∧ Blk W pa (by8 a) 28) := by
  intro l J Jx hRd hst hy w h0
  have hno_ : outs.length ≤ 9223372036854775807 := hno
  rw [show (#[Value.func (.yield l) #[] #[]] ++ #[pt b1 0, pt b2 0] : Array Value) = #[.func (.yield l) #[] #[], pt b1 0, pt b2 0] by simp]
  refine calls_R (args := [.func (.yield l) #[] #[], pt b1 0, pt b2 0]) Try.func55 rfl Try.ntmps55 rfl ?_
  intro Q0 hRet hNor
  have H := Hp.start w
  have H : Hp w [] [] w := H
  refine RG.seqK fun K1 hK2 => ?_
  refine RG.region (by kernel_rfl) ?_
  refine RL.run (j := 1) 1 [0, 2, 6] [(0, .func (.yield l) #[] #[]), (2, pt b2 0), (6, pt b1 2)] (by kernel_rfl) rfl ?_
  refine RL.sem (j := 2) (run_ld1 (P := Try.prog) (ty := 24) (a := ⟨b1, 2, none⟩) (v := .slice B outs.length cb) (by kernel_rfl) (H.oldCell (hRd _ _ h0).1)) [0, 2, 7] [(0, .func (.yield l) #[] #[]), (2, pt b2 0), (7, .slice B outs.length cb)] (by kernel_rfl) (by kernel_rfl) rfl ?_
  refine RL.run (j := 4) 2 [0, 2, 7, 8, 9] [(0, .func (.yield l) #[] #[]), (2, pt b2 0), (7, .slice B outs.length cb), (8, .int .i64 (outs.length : Int)), (9, .int .i64 0)] (by kernel_rfl) rfl ?_
  refine RL.k rfl hK2 (fun _ _ h => h) ?_
  refine RG.block ?_
  refine RG.fit [0, 2, 7, 8, 9] (M' := [(0, .func (.yield l) #[] #[]), (2, pt b2 0), (7, .slice B outs.length cb), (8, .int .i64 (outs.length : Int)), (9, .int .i64 0)]) (by kernel_rfl) ?_
  refine RG.loop (X := Nat) (fun i => [(0, .func (.yield l) #[] #[]), (2, pt b2 0), (7, .slice B outs.length cb), (8, .int .i64 (outs.length : Int)), (9, .int .i64 (i : Int))]) (fun i w_ => i ≤ outs.length ∧ J (sel (toA a) outs i) w_) (fun i => outs.length - i) 0 [0, 2, 7, 8, 9] (by kernel_rfl) ⟨Nat.zero_le _, h0⟩ ?_
  rintro i wk ⟨hil, hJk⟩
  have H3 := Hp.start wk
  refine RG.eq (M' := [(0, .func (.yield l) #[] #[]), (2, pt b2 0), (7, .slice B outs.length cb), (8, .int .i64 (outs.length : Int)), (9, .int .i64 (i : Int))]) rfl ?_
  refine RG.seqK fun K4 hK5 => ?_
  refine RG.region (by kernel_rfl) ?_
  refine RL.run (j := 1) 1 [0, 2, 7, 8, 9, 10] [(0, .func (.yield l) #[] #[]), (2, pt b2 0), (7, .slice B outs.length cb), (8, .int .i64 (outs.length : Int)), (9, .int .i64 (i : Int)), (10, .bool (decide ((i : Int) < (outs.length : Int))))] (by kernel_rfl) rfl ?_
  refine RL.k rfl hK5 (fun _ _ h => h) ?_
  refine RG.seqK fun K6 hK7 => ?_
  cases hb8 : (decide ((i : Int) < (outs.length : Int)))
  · skip
    have hb8f := of_decide_eq_false hb8
    refine RG.no rfl ?_
    refine fun F_ hF_ hM_ => wpIn_exit ?_
    refine hNor _ _ (postM_0 rfl  ?_ F_ hF_ hM_)
    exact ⟨⟨_, rfl⟩, .inl (by rw [← sel_end (q := (toA a)) (l := outs) (i := i) (by omega)]; exact hJk)⟩
  · skip
    have hb8f := of_decide_eq_true hb8
    refine RG.yes rfl ?_
    refine RG.skipK hK7 (fun _ _ h => h) ?_
    refine RG.seqK fun K9 hK10 => ?_
    refine RG.block ?_
    refine RG.seqK fun K11 hK12 => ?_
    refine RG.region (by kernel_rfl) ?_
    obtain ⟨x13, hx14⟩ : ∃ x, outs[i]? = some x := ⟨_, List.getElem?_eq_getElem (by omega)⟩
    have hok15 := (hRd _ _ hJk).2.2.2.1 x13 (List.mem_of_getElem? hx14)
    refine RL.sem (j := 1) (run_idxRdN (P := Try.prog) (k := .i64) (t := 24) (sz := 2) (A := B) (len := outs.length) (cap := cb) (j := i) (by kernel_rfl) rfl ((hRd _ _ hJk).2.2.1.hp H3) (outsC_length _) (by decide) (by omega)) [0, 2, 7, 8, 9, 11] [(0, .func (.yield l) #[] #[]), (2, pt b2 0), (7, .slice B outs.length cb), (8, .int .i64 (outs.length : Int)), (9, .int .i64 (i : Int)), (11, .pointer (Option.map (fun x => Addr.add x (i * 2)) B))] (by kernel_rfl) (by kernel_rfl) rfl ?_
    refine RL.sem (j := 2) (run_ldRdA (P := Try.prog) (ty := 40) (A := B) (o := (i * 2)) (m := 2) (sub := [.int .u64 (x13.pv : Int), .slice x13.B x13.lb.length x13.lc]) (by kernel_rfl) ((hRd _ _ hJk).2.2.1.hp H3) (outsC_cut hx14) (rfl) (by decide)) [0, 2, 7, 8, 9, 12] [(0, .func (.yield l) #[] #[]), (2, pt b2 0), (7, .slice B outs.length cb), (8, .int .i64 (outs.length : Int)), (9, .int .i64 (i : Int)), (12, .agg #[.int .u64 (x13.pv : Int), .slice x13.B x13.lb.length x13.lc])] (by kernel_rfl) (by kernel_rfl) rfl ?_
    obtain ⟨p16, w17, r18, H19⟩ := H3.alloc (P := Try.prog) 40 [.int .u64 0, .slice none 0 0] (by kernel_rfl)
    have H19 : Hp wk [] [.blk p16 [.int .u64 0, .slice none 0 0] 40] w17 := H19
    refine RL.sem (j := 3) (r18) [0, 2, 5, 7, 8, 9, 12] [(0, .func (.yield l) #[] #[]), (2, pt b2 0), (5, pt p16 0), (7, .slice B outs.length cb), (8, .int .i64 (outs.length : Int)), (9, .int .i64 (i : Int)), (12, .agg #[.int .u64 (x13.pv : Int), .slice x13.B x13.lb.length x13.lc])] (by kernel_rfl) (by kernel_rfl) rfl ?_
    obtain ⟨w20, r21, H22⟩ := H19.stA (P := Try.prog) (o := 0) (vs := [.int .u64 (x13.pv : Int), .slice x13.B x13.lb.length x13.lc]) (ty := 40) (m := 2) 0 rfl (by kernel_rfl) rfl (by simp) (by simp [Value.oneCell'])
    have H22 : Hp wk [] [.blk p16 [.int .u64 (x13.pv : Int), .slice x13.B x13.lb.length x13.lc] 40] w20 := H22
    refine RL.semU (j := 4) r21 [0, 2, 5, 7, 8, 9] [(0, .func (.yield l) #[] #[]), (2, pt b2 0), (5, pt p16 0), (7, .slice B outs.length cb), (8, .int .i64 (outs.length : Int)), (9, .int .i64 (i : Int))] (by kernel_rfl) rfl rfl rfl ?_
    refine RL.k rfl hK12 (fun _ _ h => h) ?_
    refine RG.seqK fun K23 hK24 => ?_
    refine RG.region (by kernel_rfl) ?_
    refine RL.sem (j := 1) (run_ld1 (P := Try.prog) (ty := 77) (a := ⟨b2, 0, none⟩) (v := .func (.func 27) #[] #[pt pa 0]) (by kernel_rfl) (H22.oldCell (hRd _ _ hJk).2.1)) [0, 2, 5, 7, 8, 9, 13] [(0, .func (.yield l) #[] #[]), (2, pt b2 0), (5, pt p16 0), (7, .slice B outs.length cb), (8, .int .i64 (outs.length : Int)), (9, .int .i64 (i : Int)), (13, .func (.func 27) #[] #[pt pa 0])] (by kernel_rfl) (by kernel_rfl) rfl ?_
    refine RL.sem (j := 2) (H22.ldA (o := 0) (ty := 40) (m := 2) (sub := [.int .u64 (x13.pv : Int), .slice x13.B x13.lb.length x13.lc]) 0 rfl (by kernel_rfl) rfl rfl) [0, 2, 5, 7, 8, 9, 13, 14] [(0, .func (.yield l) #[] #[]), (2, pt b2 0), (5, pt p16 0), (7, .slice B outs.length cb), (8, .int .i64 (outs.length : Int)), (9, .int .i64 (i : Int)), (13, .func (.func 27) #[] #[pt pa 0]), (14, .agg #[.int .u64 (x13.pv : Int), .slice x13.B x13.lb.length x13.lc])] (by kernel_rfl) (by kernel_rfl) rfl ?_
    refine RL.call (j := 3) (Paid1_calls x13 a pa w20 ha (hok15.mid (A' := []) H22) (Nat.le_trans (hsh x13 (List.mem_of_getElem? hx14)) (by decide)) ((hRd _ _ hJk).2.2.2.2.old H22)) (by kernel_rfl) rfl (fun e_ w25 hR => ?_)
    obtain ⟨rfl, H27⟩ := hR
    have H26 : Hp wk [] [.blk p16 [.int .u64 (x13.pv : Int), .slice x13.B x13.lb.length x13.lc] 40] w25 := H22.callNil H27
    refine ⟨_, rfl, [0, 2, 5, 7, 8, 9, 15], [(0, .func (.yield l) #[] #[]), (2, pt b2 0), (5, pt p16 0), (7, .slice B outs.length cb), (8, .int .i64 (outs.length : Int)), (9, .int .i64 (i : Int)), (15, .bool (toA a x13))], by kernel_rfl, ?_⟩
    refine RL.run (j := 4) 1 [0, 2, 5, 7, 8, 9, 16] [(0, .func (.yield l) #[] #[]), (2, pt b2 0), (5, pt p16 0), (7, .slice B outs.length cb), (8, .int .i64 (outs.length : Int)), (9, .int .i64 (i : Int)), (16, .bool (toA a x13))] (by kernel_rfl) rfl ?_
    cases hb28 : (toA a x13)
    · skip
      refine RL.run (j := 10) 6 [0, 2, 7, 8, 9, 22] [(0, .func (.yield l) #[] #[]), (2, pt b2 0), (7, .slice B outs.length cb), (8, .int .i64 (outs.length : Int)), (9, .int .i64 (i : Int)), (22, .bool false)] (by kernel_rfl) rfl ?_
      refine RL.k rfl hK24 (fun _ _ h => h) ?_
      refine RG.no rfl ?_
      refine RG.skipK hK10 (fun _ _ h => h) ?_
      refine RG.region (by kernel_rfl) ?_
      refine RL.run (j := 2) 2 [0, 2, 7, 8, 9] [(0, .func (.yield l) #[] #[]), (2, pt b2 0), (7, .slice B outs.length cb), (8, .int .i64 (outs.length : Int)), (9, .int .i64 (IntKind.i64.wrap ((i : Int) + 1)))] (by kernel_rfl) rfl ?_
      have e29 : (IntKind.i64.wrap ((i : Int) + 1)) = ((i + 1 : Nat) : Int) := by rw [in_i64 (by omega)]; omega
      refine RL.eq (M' := [(0, .func (.yield l) #[] #[]), (2, pt b2 0), (7, .slice B outs.length cb), (8, .int .i64 (outs.length : Int)), (9, .int .i64 ((i + 1 : Nat) : Int))]) (by rw [e29]) ?_
      clear e29
      refine RL.fit (ts := [0, 2, 7, 8, 9]) (M' := [(0, .func (.yield l) #[] #[]), (2, pt b2 0), (7, .slice B outs.length cb), (8, .int .i64 (outs.length : Int)), (9, .int .i64 ((i + 1 : Nat) : Int))]) (by kernel_rfl) ?_
      refine RL.eq (M' := [(0, .func (.yield l) #[] #[]), (2, pt b2 0), (7, .slice B outs.length cb), (8, .int .i64 (outs.length : Int)), (9, .int .i64 (((i + 1) : Nat) : Int))]) (by rfl) ?_
      exact RL.again (i + 1) [0, 2, 7, 8, 9] rfl (by kernel_rfl) (by show outs.length - (i + 1) < outs.length - i; omega) ⟨by omega, by rw [sel_no hx14 hb28]; exact hst _ _ _ hJk H26.below⟩
    · skip
      refine RL.run (j := 6) 2 [0, 2, 7, 8, 9, 16, 17, 18] [(0, .func (.yield l) #[] #[]), (2, pt b2 0), (7, .slice B outs.length cb), (8, .int .i64 (outs.length : Int)), (9, .int .i64 (i : Int)), (16, .bool true), (17, .func (.yield l) #[] #[]), (18, pt p16 0)] (by kernel_rfl) rfl ?_
      refine RL.sem (j := 7) (H26.ld (o := 0) (ty := 32) (v := .int .u64 (x13.pv : Int)) 0 rfl (by kernel_rfl) rfl) [0, 2, 7, 8, 9, 16, 17, 19] [(0, .func (.yield l) #[] #[]), (2, pt b2 0), (7, .slice B outs.length cb), (8, .int .i64 (outs.length : Int)), (9, .int .i64 (i : Int)), (16, .bool true), (17, .func (.yield l) #[] #[]), (19, .int .u64 (x13.pv : Int))] (by kernel_rfl) (by kernel_rfl) rfl ?_
      refine RL.yield (j := 8) ((by have h_ := hy (sel (toA a) outs i) w25 (sel_lt hx14 hb28) (hst _ _ _ hJk H26.below); simp only [payL_at (q := (toA a)) hx14 hb28] at h_; exact h_)) (by kernel_rfl) rfl (fun e_ w30 hR34 => ?_)
      obtain ⟨b31, rfl, hyt32, hyf33⟩ := yield_cases hR34
      have H35 := Hp.start w30
      refine ⟨_, rfl, [0, 2, 7, 8, 9, 16, 20], [(0, .func (.yield l) #[] #[]), (2, pt b2 0), (7, .slice B outs.length cb), (8, .int .i64 (outs.length : Int)), (9, .int .i64 (i : Int)), (16, .bool true), (20, .bool b31)], by kernel_rfl, ?_⟩
      refine RL.run (j := 10) 2 [0, 2, 7, 8, 9, 22] [(0, .func (.yield l) #[] #[]), (2, pt b2 0), (7, .slice B outs.length cb), (8, .int .i64 (outs.length : Int)), (9, .int .i64 (i : Int)), (22, .bool (!b31))] (by kernel_rfl) rfl ?_
      refine RL.k rfl hK24 (fun _ _ h => h) ?_
      rcases (Bool.eq_false_or_eq_true b31).symm with hb36 | hb36
      · skip
        refine RG.eq (M' := [(0, .func (.yield l) #[] #[]), (2, pt b2 0), (7, .slice B outs.length cb), (8, .int .i64 (outs.length : Int)), (9, .int .i64 (i : Int)), (22, .bool true)]) (by first | (rw [hb36]; done) | (rw [hb36]; rfl)) ?_
        have hJ37 := hyf33 hb36
        refine RG.yes rfl ?_
        refine RG.ret ?_
        intro F_ hF_ hM_
        refine hRet _ _ (postM_0 rfl  ?_ F_ hF_ hM_)
        exact ⟨⟨_, rfl⟩, .inr hJ37⟩
      · skip
        refine RG.eq (M' := [(0, .func (.yield l) #[] #[]), (2, pt b2 0), (7, .slice B outs.length cb), (8, .int .i64 (outs.length : Int)), (9, .int .i64 (i : Int)), (22, .bool false)]) (by first | (rw [hb36]; done) | (rw [hb36]; rfl)) ?_
        have hJ38 := hyt32 hb36
        refine RG.no rfl ?_
        refine RG.skipK hK10 (fun _ _ h => h) ?_
        refine RG.region (by kernel_rfl) ?_
        refine RL.run (j := 2) 2 [0, 2, 7, 8, 9] [(0, .func (.yield l) #[] #[]), (2, pt b2 0), (7, .slice B outs.length cb), (8, .int .i64 (outs.length : Int)), (9, .int .i64 (IntKind.i64.wrap ((i : Int) + 1)))] (by kernel_rfl) rfl ?_
        have e39 : (IntKind.i64.wrap ((i : Int) + 1)) = ((i + 1 : Nat) : Int) := by rw [in_i64 (by omega)]; omega
        refine RL.eq (M' := [(0, .func (.yield l) #[] #[]), (2, pt b2 0), (7, .slice B outs.length cb), (8, .int .i64 (outs.length : Int)), (9, .int .i64 ((i + 1 : Nat) : Int))]) (by rw [e39]) ?_
        clear e39
        refine RL.fit (ts := [0, 2, 7, 8, 9]) (M' := [(0, .func (.yield l) #[] #[]), (2, pt b2 0), (7, .slice B outs.length cb), (8, .int .i64 (outs.length : Int)), (9, .int .i64 ((i + 1 : Nat) : Int))]) (by kernel_rfl) ?_
        refine RL.eq (M' := [(0, .func (.yield l) #[] #[]), (2, pt b2 0), (7, .slice B outs.length cb), (8, .int .i64 (outs.length : Int)), (9, .int .i64 (((i + 1) : Nat) : Int))]) (by rfl) ?_
        exact RL.again (i + 1) [0, 2, 7, 8, 9] rfl (by kernel_rfl) (by show outs.length - (i + 1) < outs.length - i; omega) ⟨by omega, by rw [sel_yes hx14 hb28]; exact hJ38⟩
theorem PaysA_calls (v : Nat) (ins : List TIn) (A : Option Addr) (ca : Nat) (outs : List TOut) (B : Option Addr) (cb : Nat) (lt : Nat) (a : List UInt8) (pa : Nat) (w : World) (hv : v < 4294967296) (hlt : lt < 4294967296) (hIns : RdS w A (insC ins)) (hI : ∀ x ∈ ins, x.Ok w []) (hOuts : RdS w B (outsC outs)) (hO : ∀ x ∈ outs, x.Ok w []) (hni : ins.length ≤ maxLen) (hno : outs.length ≤ maxLen) (hsh : ∀ x ∈ outs, x.lb.length ≤ 600) (ha : a.length = 20) (hpb : Blk w pa (by8 a) 28) : Calls Try.prog 26 #[.agg #[.int .u32 (v : Int), .slice A ins.length ca, .slice B outs.length cb, .int .u32 (lt : Int)], .func (.func 27) #[] #[pt pa 0]] w fun e w' => e = .returned (.tuple #[.int .u64 (((tot (payL (toA a) outs) 0).2 : Nat) : Int), .int .i64 (((tot (payL (toA a) outs) 0).1 : Nat) : Int)]) ∧ Hp w [] [] w' := by
  refine calls_G (args := [.agg #[.int .u32 (v : Int), .slice A ins.length ca, .slice B outs.length cb, .int .u32 (lt : Int)], .func (.func 27) #[] #[pt pa 0]]) Try.func26 rfl Try.ntmps26 rfl ?_
  intro Q0 hRet hNor hPan
  have H := Hp.start w
  have H : Hp w [] [] w := H
  refine G.seqK fun K1 hK2 => ?_
  refine G.region ?_
  obtain ⟨p3, w4, r5, H6⟩ := H.box (P := Try.prog) 26 [.int .u32 (v : Int), .slice A ins.length ca, .slice B outs.length cb, .int .u32 (lt : Int)] (.agg #[.int .u32 (v : Int), .slice A ins.length ca, .slice B outs.length cb, .int .u32 (lt : Int)]) rfl
  have H6 : Hp w [] [.blk p3 [.int .u32 (v : Int), .slice A ins.length ca, .slice B outs.length cb, .int .u32 (lt : Int)] 26] w4 := H6
  refine GL.sem (j := 1) (r5) [1, 2] [(1, .func (.func 27) #[] #[pt pa 0]), (2, pt p3 0)] (by kernel_rfl) (by kernel_rfl) rfl ?_
  obtain ⟨p7, w8, r9, H10⟩ := H6.box (P := Try.prog) 77 [.func (.func 27) #[] #[pt pa 0]] (.func (.func 27) #[] #[pt pa 0]) rfl
  have H10 : Hp w [] [.blk p3 [.int .u32 (v : Int), .slice A ins.length ca, .slice B outs.length cb, .int .u32 (lt : Int)] 26, .blk p7 [.func (.func 27) #[] #[pt pa 0]] 77] w8 := H10
  refine GL.sem (j := 2) (r9) [2, 3] [(2, pt p3 0), (3, pt p7 0)] (by kernel_rfl) (by kernel_rfl) rfl ?_
  refine GL.run (j := 4) 2 [2, 3] [(2, pt p3 0), (3, pt p7 0)] (by kernel_rfl) rfl ?_
  refine GL.k rfl hK2 (fun _ _ h => h) ?_
  refine G.seqK fun K11 hK12 => ?_
  refine G.region ?_
  refine GL.run (j := 1) 1 [6] [(6, .func (.func 55) #[] #[pt p3 0, pt p7 0])] (by kernel_rfl) rfl ?_
  refine GL.call (j := 2) (Total_calls (payL (toA a) outs) (payL_lt hO) 55 #[pt p3 0, pt p7 0] (fun W => W.cell? ⟨p3, 2, none⟩ = some (.slice B outs.length cb) ∧ W.cell? ⟨p7, 0, none⟩ = some (.func (.func 27) #[] #[pt pa 0]) ∧ RdS W B (outsC outs) ∧ (∀ x ∈ outs, x.Ok W []) ∧ Blk W pa (by8 a) 28) (enters_of Try.func55 (by kernel_rfl) rfl) (by have h_ := paysA_iter outs B cb hsh hno a ha pa p3 p7; rw [← payL_length] at h_; exact h_) w8 (fun W hb_ => ⟨(hb_.cell (H10.blkAt 0 rfl).lt).trans ((H10.blkAt 0 rfl).cell 2), (hb_.cell (H10.blkAt 1 rfl).lt).trans ((H10.blkAt 1 rfl).cell 0), hOuts.hp (H10.step hb_), oksO_mid hO (H10.step hb_), hpb.old (H10.step hb_)⟩)) (by kernel_rfl) rfl (fun e_ w15 hR => ?_)
  obtain ⟨rfl, H14⟩ := hR
  have H13 : Hp w [] [.blk p3 [.int .u32 (v : Int), .slice A ins.length ca, .slice B outs.length cb, .int .u32 (lt : Int)] 26, .blk p7 [.func (.func 27) #[] #[pt pa 0]] 77] w15 := H10.callNil H14
  refine ⟨_, rfl, [7], [(7, .tuple #[.int .u64 (((tot (payL (toA a) outs) 0).2 : Nat) : Int), .int .i64 (((tot (payL (toA a) outs) 0).1 : Nat) : Int)])], by kernel_rfl, ?_⟩
  refine GL.run (j := 6) 4 [4, 5] [(4, .int .u64 (((tot (payL (toA a) outs) 0).2 : Nat) : Int)), (5, .int .i64 (((tot (payL (toA a) outs) 0).1 : Nat) : Int))] (by kernel_rfl) rfl ?_
  refine GL.k rfl hK12 (fun _ _ h => h) ?_
  refine G.ret ?_
  intro F_ hF_ hM_
  refine hRet _ _ (bodyPost_2 rfl (RV.tmp rfl) (RV.tmp rfl) ?_ F_ hF_ hM_)
  exact ⟨rfl, H13.sub (List.nil_sublist _)⟩
theorem Paid_calls (v : Nat) (ins : List TIn) (A : Option Addr) (ca : Nat) (outs : List TOut) (B : Option Addr) (cb : Nat) (lt : Nat) (a : List UInt8) (w : World) (hv : v < 4294967296) (hlt : lt < 4294967296) (hIns : RdS w A (insC ins)) (hI : ∀ x ∈ ins, x.Ok w []) (hOuts : RdS w B (outsC outs)) (hO : ∀ x ∈ outs, x.Ok w []) (hni : ins.length ≤ maxLen) (hno : outs.length ≤ maxLen) (hsh : ∀ x ∈ outs, x.lb.length ≤ 600) (ha : a.length = 20) : Calls Try.prog 9 #[.agg #[.int .u32 (v : Int), .slice A ins.length ca, .slice B outs.length cb, .int .u32 (lt : Int)], .agg (by8 a).toArray] w fun e w' => e = .returned (.tuple #[.int .u64 (((tot (payL (toA a) outs) 0).2 : Nat) : Int), .int .i64 (((tot (payL (toA a) outs) 0).1 : Nat) : Int)]) ∧ Hp w [] [] w' := by
  refine calls_G (args := [.agg #[.int .u32 (v : Int), .slice A ins.length ca, .slice B outs.length cb, .int .u32 (lt : Int)], .agg (by8 a).toArray]) Try.func9 rfl Try.ntmps9 rfl ?_
  intro Q0 hRet hNor hPan
  have H := Hp.start w
  have H : Hp w [] [] w := H
  refine G.seqK fun K1 hK2 => ?_
  refine G.region ?_
  obtain ⟨p3, w4, r5, H6⟩ := H.box (P := Try.prog) 26 [.int .u32 (v : Int), .slice A ins.length ca, .slice B outs.length cb, .int .u32 (lt : Int)] (.agg #[.int .u32 (v : Int), .slice A ins.length ca, .slice B outs.length cb, .int .u32 (lt : Int)]) rfl
  have H6 : Hp w [] [.blk p3 [.int .u32 (v : Int), .slice A ins.length ca, .slice B outs.length cb, .int .u32 (lt : Int)] 26] w4 := H6
  refine GL.sem (j := 1) (r5) [1, 2] [(1, .agg (by8 a).toArray), (2, pt p3 0)] (by kernel_rfl) (by kernel_rfl) rfl ?_
  obtain ⟨p7, w8, r9, H10⟩ := H6.box (P := Try.prog) 28 (by8 a) (.agg (by8 a).toArray) rfl
  have H10 : Hp w [] [.blk p3 [.int .u32 (v : Int), .slice A ins.length ca, .slice B outs.length cb, .int .u32 (lt : Int)] 26, .blk p7 (by8 a) 28] w8 := H10
  refine GL.sem (j := 2) (r9) [2, 3] [(2, pt p3 0), (3, pt p7 0)] (by kernel_rfl) (by kernel_rfl) rfl ?_
  refine GL.run (j := 4) 2 [2, 3] [(2, pt p3 0), (3, pt p7 0)] (by kernel_rfl) rfl ?_
  refine GL.k rfl hK2 (fun _ _ h => h) ?_
  refine G.seqK fun K11 hK12 => ?_
  refine G.region ?_
  refine GL.sem (j := 1) (H10.ldA (o := 0) (ty := 26) (m := 4) (sub := [.int .u32 (v : Int), .slice A ins.length ca, .slice B outs.length cb, .int .u32 (lt : Int)]) 0 rfl (by kernel_rfl) rfl rfl) [3, 6] [(3, pt p7 0), (6, .agg #[.int .u32 (v : Int), .slice A ins.length ca, .slice B outs.length cb, .int .u32 (lt : Int)])] (by kernel_rfl) (by kernel_rfl) rfl ?_
  refine GL.run (j := 2) 1 [6, 7] [(6, .agg #[.int .u32 (v : Int), .slice A ins.length ca, .slice B outs.length cb, .int .u32 (lt : Int)]), (7, .func (.func 27) #[] #[pt p7 0])] (by kernel_rfl) rfl ?_
  refine GL.call (j := 3) (PaysA_calls v ins A ca outs B cb lt a p7 w8 hv hlt (hIns.hp H10) (oks_mid hI H10) (hOuts.hp H10) (oksO_mid hO H10) hni hno hsh ha (H10.blkAt 1 rfl)) (by kernel_rfl) rfl (fun e_ w13 hR => ?_)
  obtain ⟨rfl, H15⟩ := hR
  have H14 : Hp w [] [.blk p3 [.int .u32 (v : Int), .slice A ins.length ca, .slice B outs.length cb, .int .u32 (lt : Int)] 26, .blk p7 (by8 a) 28] w13 := H10.callNil H15
  refine ⟨_, rfl, [8], [(8, .tuple #[.int .u64 (((tot (payL (toA a) outs) 0).2 : Nat) : Int), .int .i64 (((tot (payL (toA a) outs) 0).1 : Nat) : Int)])], by kernel_rfl, ?_⟩
  refine GL.run (j := 7) 4 [4, 5] [(4, .int .u64 (((tot (payL (toA a) outs) 0).2 : Nat) : Int)), (5, .int .i64 (((tot (payL (toA a) outs) 0).1 : Nat) : Int))] (by kernel_rfl) rfl ?_
  refine GL.k rfl hK12 (fun _ _ h => h) ?_
  refine G.ret ?_
  intro F_ hF_ hM_
  refine hRet _ _ (bodyPost_2 rfl (RV.tmp rfl) (RV.tmp rfl) ?_ F_ hF_ hM_)
  exact ⟨rfl, H14.sub (List.nil_sublist _)⟩
end Go.Proofs.Ytcedmbdahbdmaaa
set_option maxRecDepth 100000
namespace Go.Proofs.Ytcedmbdahbdmaaa
open Go.RowKit
theorem lives_calls (w : World) : Calls Try.prog 7 #[] w fun e w' => e = .returned (.bool true) ∧ Hp w [] [] w' := by
  refine calls_G (args := []) Try.func7 rfl Try.ntmps7 rfl ?_
  intro Q0 hRet hNor hPan
  have H := Hp.start w
  have H : Hp w [] [] w := H
  refine G.seqK fun K1 hK2 => ?_
  refine G.region ?_
  refine GL.run (j := 1) 1 [] [] (by kernel_rfl) rfl ?_
  refine GL.k rfl hK2 (fun _ _ h => h) ?_
  refine G.seqK fun K3 hK4 => ?_
  refine G.region ?_
  refine GL.run (j := 1) 1 [9] [(9, .agg #[.int .i64 1, .int .u8 0, .int .u8 0, .int .u8 0, .int .u8 0, .int .u8 0, .int .u8 0, .int .u8 0, .int .u8 0, .int .u8 0, .int .u8 0, .int .u8 0, .int .u8 0, .int .u8 0, .int .u8 0, .int .u8 0, .int .u8 0, .int .u8 0, .int .u8 0, .int .u8 0, .int .u8 0, .slice none 0 0])] (by kernel_rfl) rfl ?_
  refine GL.call (j := 2) (Bytes_addr (0 : UInt8) (0 : UInt8) (0 : UInt8) (0 : UInt8) (0 : UInt8) (0 : UInt8) (0 : UInt8) (0 : UInt8) (0 : UInt8) (0 : UInt8) (0 : UInt8) (0 : UInt8) (0 : UInt8) (0 : UInt8) (0 : UInt8) (0 : UInt8) (0 : UInt8) (0 : UInt8) (0 : UInt8) (0 : UInt8) none 0 0 w) (by kernel_rfl) rfl (fun e_ w9 hR => ?_)
  obtain ⟨A5, c6, rfl, H8⟩ := hR
  have H7 : Hp w [] [.row A5 (([118, 169, 20, 0, 0, 0, 0, 0, 0, 0, 0, 0, 0, 0, 0, 0, 0, 0, 0, 0, 0, 0, 0, 136, 172] : List UInt8).length) c6 5 1 (by8 ([118, 169, 20, 0, 0, 0, 0, 0, 0, 0, 0, 0, 0, 0, 0, 0, 0, 0, 0, 0, 0, 0, 0, 136, 172] : List UInt8))] w9 := H.callNew H8
  refine ⟨_, rfl, [10], [(10, .tuple #[.slice A5 (([118, 169, 20, 0, 0, 0, 0, 0, 0, 0, 0, 0, 0, 0, 0, 0, 0, 0, 0, 0, 0, 0, 0, 136, 172] : List UInt8).length) c6, .int .i64 0])], by kernel_rfl, ?_⟩
  refine GL.run (j := 7) 5 [1, 2] [(1, .slice A5 (([118, 169, 20, 0, 0, 0, 0, 0, 0, 0, 0, 0, 0, 0, 0, 0, 0, 0, 0, 0, 0, 0, 0, 136, 172] : List UInt8).length) c6), (2, .int .i64 0)] (by kernel_rfl) rfl ?_
  refine GL.k rfl hK4 (fun _ _ h => h) ?_
  refine G.seqK fun K10 hK11 => ?_
  refine G.region ?_
  refine GL.run (j := 1) 1 [1, 2, 13] [(1, .slice A5 (([118, 169, 20, 0, 0, 0, 0, 0, 0, 0, 0, 0, 0, 0, 0, 0, 0, 0, 0, 0, 0, 0, 0, 136, 172] : List UInt8).length) c6), (2, .int .i64 0), (13, .agg #[.int .u8 0, .int .u8 0, .int .u8 0, .int .u8 0, .int .u8 0, .int .u8 0, .int .u8 0, .int .u8 0, .int .u8 0, .int .u8 0, .int .u8 0, .int .u8 0, .int .u8 0, .int .u8 0, .int .u8 0, .int .u8 0, .int .u8 0, .int .u8 0, .int .u8 0, .int .u8 0, .int .u8 0, .int .u8 0, .int .u8 0, .int .u8 0, .int .u8 0, .int .u8 0, .int .u8 0, .int .u8 0, .int .u8 0, .int .u8 0, .int .u8 0, .int .u8 0, .int .u32 0, .slice none 0 0, .int .u32 0])] (by kernel_rfl) rfl ?_
  obtain ⟨p12, w13, r14, H15⟩ := H7.made (P := Try.prog) (Instr.buildSlice 23 1 #[(0, .agg #[.int .u8 0, .int .u8 0, .int .u8 0, .int .u8 0, .int .u8 0, .int .u8 0, .int .u8 0, .int .u8 0, .int .u8 0, .int .u8 0, .int .u8 0, .int .u8 0, .int .u8 0, .int .u8 0, .int .u8 0, .int .u8 0, .int .u8 0, .int .u8 0, .int .u8 0, .int .u8 0, .int .u8 0, .int .u8 0, .int .u8 0, .int .u8 0, .int .u8 0, .int .u8 0, .int .u8 0, .int .u8 0, .int .u8 0, .int .u8 0, .int .u8 0, .int .u8 0, .int .u32 0, .slice none 0 0, .int .u32 0])]) (fun b_ => .slice (some ⟨b_, 0, none⟩) 1 1) [.int .u8 0, .int .u8 0, .int .u8 0, .int .u8 0, .int .u8 0, .int .u8 0, .int .u8 0, .int .u8 0, .int .u8 0, .int .u8 0, .int .u8 0, .int .u8 0, .int .u8 0, .int .u8 0, .int .u8 0, .int .u8 0, .int .u8 0, .int .u8 0, .int .u8 0, .int .u8 0, .int .u8 0, .int .u8 0, .int .u8 0, .int .u8 0, .int .u8 0, .int .u8 0, .int .u8 0, .int .u8 0, .int .u8 0, .int .u8 0, .int .u8 0, .int .u8 0, .int .u32 0, .slice none 0 0, .int .u32 0] 53 (by kernel_rfl)
  have H15 : Hp w [] [.row A5 (([118, 169, 20, 0, 0, 0, 0, 0, 0, 0, 0, 0, 0, 0, 0, 0, 0, 0, 0, 0, 0, 0, 0, 136, 172] : List UInt8).length) c6 5 1 (by8 ([118, 169, 20, 0, 0, 0, 0, 0, 0, 0, 0, 0, 0, 0, 0, 0, 0, 0, 0, 0, 0, 0, 0, 136, 172] : List UInt8)), .blk p12 [.int .u8 0, .int .u8 0, .int .u8 0, .int .u8 0, .int .u8 0, .int .u8 0, .int .u8 0, .int .u8 0, .int .u8 0, .int .u8 0, .int .u8 0, .int .u8 0, .int .u8 0, .int .u8 0, .int .u8 0, .int .u8 0, .int .u8 0, .int .u8 0, .int .u8 0, .int .u8 0, .int .u8 0, .int .u8 0, .int .u8 0, .int .u8 0, .int .u8 0, .int .u8 0, .int .u8 0, .int .u8 0, .int .u8 0, .int .u8 0, .int .u8 0, .int .u8 0, .int .u32 0, .slice none 0 0, .int .u32 0] 53] w13 := H15
  refine GL.sem (j := 2) (r14) [1, 2, 14] [(1, .slice A5 (([118, 169, 20, 0, 0, 0, 0, 0, 0, 0, 0, 0, 0, 0, 0, 0, 0, 0, 0, 0, 0, 0, 0, 136, 172] : List UInt8).length) c6), (2, .int .i64 0), (14, .slice (some ⟨p12, 0, none⟩) 1 1)] (by kernel_rfl) (by kernel_rfl) rfl ?_
  refine GL.run (j := 4) 2 [2, 14, 16] [(2, .int .i64 0), (14, .slice (some ⟨p12, 0, none⟩) 1 1), (16, .agg #[.int .u64 5, .slice A5 (([118, 169, 20, 0, 0, 0, 0, 0, 0, 0, 0, 0, 0, 0, 0, 0, 0, 0, 0, 0, 0, 0, 0, 136, 172] : List UInt8).length) c6])] (by kernel_rfl) rfl ?_
  obtain ⟨p16, w17, r18, H19⟩ := H15.made (P := Try.prog) (Instr.buildSlice 24 1 #[(0, .agg #[.int .u64 5, .slice A5 (([118, 169, 20, 0, 0, 0, 0, 0, 0, 0, 0, 0, 0, 0, 0, 0, 0, 0, 0, 0, 0, 0, 0, 136, 172] : List UInt8).length) c6])]) (fun b_ => .slice (some ⟨b_, 0, none⟩) 1 1) [.int .u64 5, .slice A5 (([118, 169, 20, 0, 0, 0, 0, 0, 0, 0, 0, 0, 0, 0, 0, 0, 0, 0, 0, 0, 0, 0, 0, 136, 172] : List UInt8).length) c6] 40 (by kernel_rfl)
  have H19 : Hp w [] [.row A5 (([118, 169, 20, 0, 0, 0, 0, 0, 0, 0, 0, 0, 0, 0, 0, 0, 0, 0, 0, 0, 0, 0, 0, 136, 172] : List UInt8).length) c6 5 1 (by8 ([118, 169, 20, 0, 0, 0, 0, 0, 0, 0, 0, 0, 0, 0, 0, 0, 0, 0, 0, 0, 0, 0, 0, 136, 172] : List UInt8)), .blk p12 [.int .u8 0, .int .u8 0, .int .u8 0, .int .u8 0, .int .u8 0, .int .u8 0, .int .u8 0, .int .u8 0, .int .u8 0, .int .u8 0, .int .u8 0, .int .u8 0, .int .u8 0, .int .u8 0, .int .u8 0, .int .u8 0, .int .u8 0, .int .u8 0, .int .u8 0, .int .u8 0, .int .u8 0, .int .u8 0, .int .u8 0, .int .u8 0, .int .u8 0, .int .u8 0, .int .u8 0, .int .u8 0, .int .u8 0, .int .u8 0, .int .u8 0, .int .u8 0, .int .u32 0, .slice none 0 0, .int .u32 0] 53, .blk p16 [.int .u64 5, .slice A5 (([118, 169, 20, 0, 0, 0, 0, 0, 0, 0, 0, 0, 0, 0, 0, 0, 0, 0, 0, 0, 0, 0, 0, 136, 172] : List UInt8).length) c6] 40] w17 := H19
  refine GL.sem (j := 5) (r18) [2, 14, 17] [(2, .int .i64 0), (14, .slice (some ⟨p12, 0, none⟩) 1 1), (17, .slice (some ⟨p16, 0, none⟩) 1 1)] (by kernel_rfl) (by kernel_rfl) rfl ?_
  refine GL.run (j := 6) 1 [2, 18] [(2, .int .i64 0), (18, .agg #[.int .u32 0, .slice (some ⟨p12, 0, none⟩) 1 1, .slice (some ⟨p16, 0, none⟩) 1 1, .int .u32 0])] (by kernel_rfl) rfl ?_
  obtain ⟨p20, w21, r22, H23⟩ := H19.alloc (P := Try.prog) 26 [.int .u32 0, .slice none 0 0, .slice none 0 0, .int .u32 0] (by kernel_rfl)
  have H23 : Hp w [] [.row A5 (([118, 169, 20, 0, 0, 0, 0, 0, 0, 0, 0, 0, 0, 0, 0, 0, 0, 0, 0, 0, 0, 0, 0, 136, 172] : List UInt8).length) c6 5 1 (by8 ([118, 169, 20, 0, 0, 0, 0, 0, 0, 0, 0, 0, 0, 0, 0, 0, 0, 0, 0, 0, 0, 0, 0, 136, 172] : List UInt8)), .blk p12 [.int .u8 0, .int .u8 0, .int .u8 0, .int .u8 0, .int .u8 0, .int .u8 0, .int .u8 0, .int .u8 0, .int .u8 0, .int .u8 0, .int .u8 0, .int .u8 0, .int .u8 0, .int .u8 0, .int .u8 0, .int .u8 0, .int .u8 0, .int .u8 0, .int .u8 0, .int .u8 0, .int .u8 0, .int .u8 0, .int .u8 0, .int .u8 0, .int .u8 0, .int .u8 0, .int .u8 0, .int .u8 0, .int .u8 0, .int .u8 0, .int .u8 0, .int .u8 0, .int .u32 0, .slice none 0 0, .int .u32 0] 53, .blk p16 [.int .u64 5, .slice A5 (([118, 169, 20, 0, 0, 0, 0, 0, 0, 0, 0, 0, 0, 0, 0, 0, 0, 0, 0, 0, 0, 0, 0, 136, 172] : List UInt8).length) c6] 40, .blk p20 [.int .u32 0, .slice none 0 0, .slice none 0 0, .int .u32 0] 26] w21 := H23
  refine GL.sem (j := 7) (r22) [2, 3, 18] [(2, .int .i64 0), (3, pt p20 0), (18, .agg #[.int .u32 0, .slice (some ⟨p12, 0, none⟩) 1 1, .slice (some ⟨p16, 0, none⟩) 1 1, .int .u32 0])] (by kernel_rfl) (by kernel_rfl) rfl ?_
  obtain ⟨w24, r25, H26⟩ := H23.stA (P := Try.prog) (o := 0) (vs := [.int .u32 0, .slice (some ⟨p12, 0, none⟩) 1 1, .slice (some ⟨p16, 0, none⟩) 1 1, .int .u32 0]) (ty := 26) (m := 4) 3 rfl (by kernel_rfl) rfl (by simp) (by simp [Value.oneCell'])
  have H26 : Hp w [] [.row A5 (([118, 169, 20, 0, 0, 0, 0, 0, 0, 0, 0, 0, 0, 0, 0, 0, 0, 0, 0, 0, 0, 0, 0, 136, 172] : List UInt8).length) c6 5 1 (by8 ([118, 169, 20, 0, 0, 0, 0, 0, 0, 0, 0, 0, 0, 0, 0, 0, 0, 0, 0, 0, 0, 0, 0, 136, 172] : List UInt8)), .blk p12 [.int .u8 0, .int .u8 0, .int .u8 0, .int .u8 0, .int .u8 0, .int .u8 0, .int .u8 0, .int .u8 0, .int .u8 0, .int .u8 0, .int .u8 0, .int .u8 0, .int .u8 0, .int .u8 0, .int .u8 0, .int .u8 0, .int .u8 0, .int .u8 0, .int .u8 0, .int .u8 0, .int .u8 0, .int .u8 0, .int .u8 0, .int .u8 0, .int .u8 0, .int .u8 0, .int .u8 0, .int .u8 0, .int .u8 0, .int .u8 0, .int .u8 0, .int .u8 0, .int .u32 0, .slice none 0 0, .int .u32 0] 53, .blk p16 [.int .u64 5, .slice A5 (([118, 169, 20, 0, 0, 0, 0, 0, 0, 0, 0, 0, 0, 0, 0, 0, 0, 0, 0, 0, 0, 0, 0, 136, 172] : List UInt8).length) c6] 40, .blk p20 [.int .u32 0, .slice (some ⟨p12, 0, none⟩) 1 1, .slice (some ⟨p16, 0, none⟩) 1 1, .int .u32 0] 26] w24 := H26
  refine GL.semU (j := 8) r25 [2, 3] [(2, .int .i64 0), (3, pt p20 0)] (by kernel_rfl) rfl rfl rfl ?_
  refine GL.k rfl hK11 (fun _ _ h => h) ?_
  refine G.seqK fun K27 hK28 => ?_
  refine G.region ?_
  refine GL.sem (j := 1) (H26.ldA (o := 0) (ty := 26) (m := 4) (sub := [.int .u32 0, .slice (some ⟨p12, 0, none⟩) 1 1, .slice (some ⟨p16, 0, none⟩) 1 1, .int .u32 0]) 3 rfl (by kernel_rfl) rfl rfl) [2, 3, 20] [(2, .int .i64 0), (3, pt p20 0), (20, .agg #[.int .u32 0, .slice (some ⟨p12, 0, none⟩) 1 1, .slice (some ⟨p16, 0, none⟩) 1 1, .int .u32 0])] (by kernel_rfl) (by kernel_rfl) rfl ?_
  have eE : txE 0 [TIn.nil] [⟨5, A5, ([118, 169, 20, 0, 0, 0, 0, 0, 0, 0, 0, 0, 0, 0, 0, 0, 0, 0, 0, 0, 0, 0, 0, 136, 172] : List UInt8), c6⟩] 0 = 0 := by kernel_rfl
  have eL : (txO 0 [TIn.nil] [⟨5, A5, ([118, 169, 20, 0, 0, 0, 0, 0, 0, 0, 0, 0, 0, 0, 0, 0, 0, 0, 0, 0, 0, 0, 0, 136, 172] : List UInt8), c6⟩] 0).length = 85 := by kernel_rfl
  refine GL.call (j := 2) (by have h_ := TBytes_calls 0 [TIn.nil] (some ⟨p12, 0, none⟩) 1 [⟨5, A5, ([118, 169, 20, 0, 0, 0, 0, 0, 0, 0, 0, 0, 0, 0, 0, 0, 0, 0, 0, 0, 0, 0, 0, 136, 172] : List UInt8), c6⟩] (some ⟨p16, 0, none⟩) 1 0 w24 (by decide) (by decide) (H26.rdBlk (o := 0) (xs := insC [TIn.nil]) 1 35 rfl (by kernel_rfl)) (fun x hx => by simp only [List.mem_singleton] at hx; subst hx; exact ⟨rfl, by decide, by decide, fun _ _ _ => .inl rfl, by decide, by decide⟩) (H26.rdBlk (o := 0) (xs := outsC [⟨5, A5, ([118, 169, 20, 0, 0, 0, 0, 0, 0, 0, 0, 0, 0, 0, 0, 0, 0, 0, 0, 0, 0, 0, 0, 136, 172] : List UInt8), c6⟩]) 2 2 rfl rfl) (fun x hx => by simp only [List.mem_singleton] at hx; subst hx; exact ⟨(show 5 < 18446744073709551616 by decide), RdO.row (A' := []) (B' := [.row A5 (([118, 169, 20, 0, 0, 0, 0, 0, 0, 0, 0, 0, 0, 0, 0, 0, 0, 0, 0, 0, 0, 0, 0, 136, 172] : List UInt8).length) c6 5 1 (by8 ([118, 169, 20, 0, 0, 0, 0, 0, 0, 0, 0, 0, 0, 0, 0, 0, 0, 0, 0, 0, 0, 0, 0, 136, 172] : List UInt8)), .blk p12 [.int .u8 0, .int .u8 0, .int .u8 0, .int .u8 0, .int .u8 0, .int .u8 0, .int .u8 0, .int .u8 0, .int .u8 0, .int .u8 0, .int .u8 0, .int .u8 0, .int .u8 0, .int .u8 0, .int .u8 0, .int .u8 0, .int .u8 0, .int .u8 0, .int .u8 0, .int .u8 0, .int .u8 0, .int .u8 0, .int .u8 0, .int .u8 0, .int .u8 0, .int .u8 0, .int .u8 0, .int .u8 0, .int .u8 0, .int .u8 0, .int .u8 0, .int .u8 0, .int .u32 0, .slice none 0 0, .int .u32 0] 53, .blk p16 [.int .u64 5, .slice A5 (([118, 169, 20, 0, 0, 0, 0, 0, 0, 0, 0, 0, 0, 0, 0, 0, 0, 0, 0, 0, 0, 0, 0, 136, 172] : List UInt8).length) c6] 40, .blk p20 [.int .u32 0, .slice (some ⟨p12, 0, none⟩) 1 1, .slice (some ⟨p16, 0, none⟩) 1 1, .int .u32 0] 26]) H26 0 rfl, (H26.rowLe 0 rfl).1, (H26.rowLe 0 rfl).2.2⟩) (by decide) (show 1 ≤ maxLen by decide); rw [eE] at h_; exact h_) (by kernel_rfl) rfl (fun e_ w32 hR => ?_)
  obtain ⟨A29, n30, c31, rfl, H34⟩ := hR
  have H33 : Hp w [] [.row A5 (([118, 169, 20, 0, 0, 0, 0, 0, 0, 0, 0, 0, 0, 0, 0, 0, 0, 0, 0, 0, 0, 0, 0, 136, 172] : List UInt8).length) c6 5 1 (by8 ([118, 169, 20, 0, 0, 0, 0, 0, 0, 0, 0, 0, 0, 0, 0, 0, 0, 0, 0, 0, 0, 0, 0, 136, 172] : List UInt8)), .blk p12 [.int .u8 0, .int .u8 0, .int .u8 0, .int .u8 0, .int .u8 0, .int .u8 0, .int .u8 0, .int .u8 0, .int .u8 0, .int .u8 0, .int .u8 0, .int .u8 0, .int .u8 0, .int .u8 0, .int .u8 0, .int .u8 0, .int .u8 0, .int .u8 0, .int .u8 0, .int .u8 0, .int .u8 0, .int .u8 0, .int .u8 0, .int .u8 0, .int .u8 0, .int .u8 0, .int .u8 0, .int .u8 0, .int .u8 0, .int .u8 0, .int .u8 0, .int .u8 0, .int .u32 0, .slice none 0 0, .int .u32 0] 53, .blk p16 [.int .u64 5, .slice A5 (([118, 169, 20, 0, 0, 0, 0, 0, 0, 0, 0, 0, 0, 0, 0, 0, 0, 0, 0, 0, 0, 0, 0, 136, 172] : List UInt8).length) c6] 40, .blk p20 [.int .u32 0, .slice (some ⟨p12, 0, none⟩) 1 1, .slice (some ⟨p16, 0, none⟩) 1 1, .int .u32 0] 26, .row A29 n30 c31 5 1 (by8 (txO 0 [TIn.nil] [⟨5, A5, ([118, 169, 20, 0, 0, 0, 0, 0, 0, 0, 0, 0, 0, 0, 0, 0, 0, 0, 0, 0, 0, 0, 0, 136, 172] : List UInt8), c6⟩] 0))] w32 := H26.callNew H34
  have hl85 := (H33.rowLe 4 rfl).2.1
  rw [by8_length, Nat.mul_one, eL] at hl85
  refine ⟨_, rfl, [2, 3, 21], [(2, .int .i64 0), (3, pt p20 0), (21, .tuple #[.slice A29 n30 c31, .int .i64 0])], by kernel_rfl, ?_⟩
  refine GL.run (j := 7) 5 [2, 3, 4, 5] [(2, .int .i64 0), (3, pt p20 0), (4, .slice A29 n30 c31), (5, .int .i64 0)] (by kernel_rfl) rfl ?_
  refine GL.k rfl hK28 (fun _ _ h => h) ?_
  refine G.seqK fun K35 hK36 => ?_
  refine G.region ?_
  refine GL.sem (j := 1) (H33.ldA (o := 0) (ty := 26) (m := 4) (sub := [.int .u32 0, .slice (some ⟨p12, 0, none⟩) 1 1, .slice (some ⟨p16, 0, none⟩) 1 1, .int .u32 0]) 3 rfl (by kernel_rfl) rfl rfl) [2, 4, 5, 25] [(2, .int .i64 0), (4, .slice A29 n30 c31), (5, .int .i64 0), (25, .agg #[.int .u32 0, .slice (some ⟨p12, 0, none⟩) 1 1, .slice (some ⟨p16, 0, none⟩) 1 1, .int .u32 0])] (by kernel_rfl) (by kernel_rfl) rfl ?_
  refine GL.run (j := 2) 1 [2, 4, 5, 25, 26] [(2, .int .i64 0), (4, .slice A29 n30 c31), (5, .int .i64 0), (25, .agg #[.int .u32 0, .slice (some ⟨p12, 0, none⟩) 1 1, .slice (some ⟨p16, 0, none⟩) 1 1, .int .u32 0]), (26, .agg #[.int .u8 0, .int .u8 0, .int .u8 0, .int .u8 0, .int .u8 0, .int .u8 0, .int .u8 0, .int .u8 0, .int .u8 0, .int .u8 0, .int .u8 0, .int .u8 0, .int .u8 0, .int .u8 0, .int .u8 0, .int .u8 0, .int .u8 0, .int .u8 0, .int .u8 0, .int .u8 0])] (by kernel_rfl) rfl ?_
  have eP : tot (payL (toA (List.replicate 20 0)) [⟨5, A5, ([118, 169, 20, 0, 0, 0, 0, 0, 0, 0, 0, 0, 0, 0, 0, 0, 0, 0, 0, 0, 0, 0, 0, 136, 172] : List UInt8), c6⟩]) 0 = (0, 5) := by kernel_rfl
  refine GL.call (j := 3) ((by have h_ := Paid_calls 0 [TIn.nil] (some ⟨p12, 0, none⟩) 1 [⟨5, A5, ([118, 169, 20, 0, 0, 0, 0, 0, 0, 0, 0, 0, 0, 0, 0, 0, 0, 0, 0, 0, 0, 0, 0, 136, 172] : List UInt8), c6⟩] (some ⟨p16, 0, none⟩) 1 0 (List.replicate 20 0) w32 (by decide) (by decide) (H33.rdBlk (o := 0) (xs := insC [TIn.nil]) 1 35 rfl (by kernel_rfl)) (fun x hx => by simp only [List.mem_singleton] at hx; subst hx; exact ⟨rfl, by decide, by decide, fun _ _ _ => .inl rfl, by decide, by decide⟩) (H33.rdBlk (o := 0) (xs := outsC [⟨5, A5, ([118, 169, 20, 0, 0, 0, 0, 0, 0, 0, 0, 0, 0, 0, 0, 0, 0, 0, 0, 0, 0, 0, 0, 136, 172] : List UInt8), c6⟩]) 2 2 rfl rfl) (fun x hx => by simp only [List.mem_singleton] at hx; subst hx; exact ⟨(show 5 < 18446744073709551616 by decide), RdO.row (A' := []) (B' := [.row A5 (([118, 169, 20, 0, 0, 0, 0, 0, 0, 0, 0, 0, 0, 0, 0, 0, 0, 0, 0, 0, 0, 0, 0, 136, 172] : List UInt8).length) c6 5 1 (by8 ([118, 169, 20, 0, 0, 0, 0, 0, 0, 0, 0, 0, 0, 0, 0, 0, 0, 0, 0, 0, 0, 0, 0, 136, 172] : List UInt8)), .blk p12 [.int .u8 0, .int .u8 0, .int .u8 0, .int .u8 0, .int .u8 0, .int .u8 0, .int .u8 0, .int .u8 0, .int .u8 0, .int .u8 0, .int .u8 0, .int .u8 0, .int .u8 0, .int .u8 0, .int .u8 0, .int .u8 0, .int .u8 0, .int .u8 0, .int .u8 0, .int .u8 0, .int .u8 0, .int .u8 0, .int .u8 0, .int .u8 0, .int .u8 0, .int .u8 0, .int .u8 0, .int .u8 0, .int .u8 0, .int .u8 0, .int .u8 0, .int .u8 0, .int .u32 0, .slice none 0 0, .int .u32 0] 53, .blk p16 [.int .u64 5, .slice A5 (([118, 169, 20, 0, 0, 0, 0, 0, 0, 0, 0, 0, 0, 0, 0, 0, 0, 0, 0, 0, 0, 0, 0, 136, 172] : List UInt8).length) c6] 40, .blk p20 [.int .u32 0, .slice (some ⟨p12, 0, none⟩) 1 1, .slice (some ⟨p16, 0, none⟩) 1 1, .int .u32 0] 26, .row A29 n30 c31 5 1 (by8 (txO 0 [TIn.nil] [⟨5, A5, ([118, 169, 20, 0, 0, 0, 0, 0, 0, 0, 0, 0, 0, 0, 0, 0, 0, 0, 0, 0, 0, 0, 0, 136, 172] : List UInt8), c6⟩] 0))]) H33 0 rfl, (H33.rowLe 0 rfl).1, (H33.rowLe 0 rfl).2.2⟩) (by decide) (show 1 ≤ maxLen by decide) (fun x hx => by simp only [List.mem_singleton] at hx; subst hx; exact (show 25 ≤ 600 by decide)) rfl; rw [eP] at h_; exact h_)) (by kernel_rfl) rfl (fun e_ w37 hR => ?_)
  obtain ⟨rfl, H39⟩ := hR
  have H38 : Hp w [] [.row A5 (([118, 169, 20, 0, 0, 0, 0, 0, 0, 0, 0, 0, 0, 0, 0, 0, 0, 0, 0, 0, 0, 0, 0, 136, 172] : List UInt8).length) c6 5 1 (by8 ([118, 169, 20, 0, 0, 0, 0, 0, 0, 0, 0, 0, 0, 0, 0, 0, 0, 0, 0, 0, 0, 0, 0, 136, 172] : List UInt8)), .blk p12 [.int .u8 0, .int .u8 0, .int .u8 0, .int .u8 0, .int .u8 0, .int .u8 0, .int .u8 0, .int .u8 0, .int .u8 0, .int .u8 0, .int .u8 0, .int .u8 0, .int .u8 0, .int .u8 0, .int .u8 0, .int .u8 0, .int .u8 0, .int .u8 0, .int .u8 0, .int .u8 0, .int .u8 0, .int .u8 0, .int .u8 0, .int .u8 0, .int .u8 0, .int .u8 0, .int .u8 0, .int .u8 0, .int .u8 0, .int .u8 0, .int .u8 0, .int .u8 0, .int .u32 0, .slice none 0 0, .int .u32 0] 53, .blk p16 [.int .u64 5, .slice A5 (([118, 169, 20, 0, 0, 0, 0, 0, 0, 0, 0, 0, 0, 0, 0, 0, 0, 0, 0, 0, 0, 0, 0, 136, 172] : List UInt8).length) c6] 40, .blk p20 [.int .u32 0, .slice (some ⟨p12, 0, none⟩) 1 1, .slice (some ⟨p16, 0, none⟩) 1 1, .int .u32 0] 26, .row A29 n30 c31 5 1 (by8 (txO 0 [TIn.nil] [⟨5, A5, ([118, 169, 20, 0, 0, 0, 0, 0, 0, 0, 0, 0, 0, 0, 0, 0, 0, 0, 0, 0, 0, 0, 0, 136, 172] : List UInt8), c6⟩] 0))] w37 := H33.callNil H39
  refine ⟨_, rfl, [2, 4, 5, 27], [(2, .int .i64 0), (4, .slice A29 n30 c31), (5, .int .i64 0), (27, .tuple #[.int .u64 5, .int .i64 0])], by kernel_rfl, ?_⟩
  refine GL.run (j := 8) 5 [2, 4, 5, 6, 7] [(2, .int .i64 0), (4, .slice A29 n30 c31), (5, .int .i64 0), (6, .int .u64 5), (7, .int .i64 0)] (by kernel_rfl) rfl ?_
  refine GL.k rfl hK36 (fun _ _ h => h) ?_
  refine G.seqK fun K40 hK41 => ?_
  refine G.region ?_
  refine GL.run (j := 16) 16 [6, 45] [(6, .int .u64 5), (45, .bool ((n30 : Int) == 85))] (by kernel_rfl) rfl ?_
  have hb42 : ((n30 : Int) == 85) = true := by rw [← hl85]; rfl
  rw [hb42]
  refine GL.run (j := 20) 4 [0] [(0, .bool true)] (by kernel_rfl) rfl ?_
  refine GL.k rfl hK41 (fun _ _ h => h) ?_
  refine G.ret ?_
  intro F_ hF_ hM_
  refine hRet _ _ (bodyPost_1 rfl (RV.tmp rfl) ?_ F_ hF_ hM_)
  exact ⟨rfl, H38.sub (List.nil_sublist _)⟩
end Go.Proofs.Ytcedmbdahbdmaaa
