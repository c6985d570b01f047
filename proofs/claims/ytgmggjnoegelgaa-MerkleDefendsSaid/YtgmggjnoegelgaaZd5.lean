/- MerkleDefends: the row. -/
import Derived.Test.YtgmggjnoegelgaaZd4
set_option linter.unusedVariables false
namespace Go.Proofs.Ytgmggjnoegelgaa
open Go.RowKit
theorem cntH_le (n : Nat) : cntH n ≤ n := by
  induction n using Nat.strongRecOn with
  | _ n ih =>
    by_cases h : n ≤ 1
    · rw [cntH_one h]; omega
    · have := ih ((n + 1) / 2) (by omega)
      rw [cntH_step (by omega)]
      omega
def rowsN (n : Nat) : Nat := if leafB (n : Int) = true then cntH n else 0
theorem Rows_calls (n : Nat) (w : World) : Calls Try.prog 11 #[.int .i64 (n : Int)] w fun e w' => e = .returned (.int .i64 ((rowsN n : Nat) : Int)) ∧ Hp w [] [] w' := by
  refine calls_G (args := [.int .i64 (n : Int)]) Try.func11 rfl Try.ntmps11 rfl ?_
  intro Q0 hRet hNor hPan
  have H := Hp.start w
  have H : Hp w [] [] w := H
  refine G.seqK fun K1 hK2 => ?_
  refine G.region ?_
  refine GL.run (j := 1) 1 [0] [(0, .int .i64 (n : Int))] (by kernel_rfl) rfl ?_
  refine GL.k rfl hK2 (fun _ _ h => h) ?_
  refine G.seqK fun K3 hK4 => ?_
  refine G.seqK fun K5 hK6 => ?_
  refine G.region ?_
  refine GL.run (j := 1) 1 [0, 4] [(0, .int .i64 (n : Int)), (4, .int .i64 (n : Int))] (by kernel_rfl) rfl ?_
  refine GL.call (j := 2) (Leaves_calls (n : Int) w) (by kernel_rfl) rfl (fun e_ w7 hR => ?_)
  obtain ⟨rfl, H9⟩ := hR
  have H8 : Hp w [] [] w7 := H.callNil H9
  refine ⟨_, rfl, [0, 5], [(0, .int .i64 (n : Int)), (5, .bool (leafB (n : Int)))], by kernel_rfl, ?_⟩
  refine GL.run (j := 3) 1 [0, 6] [(0, .int .i64 (n : Int)), (6, .bool (!(leafB (n : Int))))] (by kernel_rfl) rfl ?_
  refine GL.k rfl hK6 (fun _ _ h => h) ?_
  cases hb10 : (leafB (n : Int))
  · skip
    have hlb : leafB (n : Int) = false := hb10
    refine G.yes rfl ?_
    refine G.seqK fun K11 hK12 => ?_
    refine G.region ?_
    refine GL.run (j := 1) 1 [2] [(2, .int .i64 0)] (by kernel_rfl) rfl ?_
    refine GL.k rfl hK12 (fun _ _ h => h) ?_
    refine G.ret ?_
    intro F_ hF_ hM_
    refine hRet _ _ (bodyPost_1 rfl (RV.tmp rfl) ?_ F_ hF_ hM_)
    have e0 : rowsN n = 0 := by unfold rowsN; rw [hlb, if_neg (by decide)]
    rw [e0]
    exact ⟨rfl, H8.sub (List.nil_sublist _)⟩
  · skip
    have hlb : leafB (n : Int) = true := hb10
    have hlf : 1 ≤ n ∧ n ≤ 65536 := by have h_ := of_decide_eq_true (show leafB (n : Int) = true from hb10); omega
    refine G.no rfl ?_
    refine G.skipK hK4 (fun _ _ h => h) ?_
    refine G.seqK fun K13 hK14 => ?_
    refine G.region ?_
    refine GL.run (j := 1) 1 [0, 3] [(0, .int .i64 (n : Int)), (3, .int .i64 0)] (by kernel_rfl) rfl ?_
    refine GL.k rfl hK14 (fun _ _ h => h) ?_
    refine G.seqK fun K15 hK16 => ?_
    refine G.block ?_
    refine G.fit [0, 3] (M' := [(0, .int .i64 (n : Int)), (3, .int .i64 0)]) (by kernel_rfl) ?_
    refine G.loop (X := Nat × Nat) (fun ⟨m, r⟩ => [(0, .int .i64 (m : Int)), (3, .int .i64 (r : Int))]) (fun ⟨m, r⟩ w_ => (r + cntH m = cntH n ∧ m ≤ 65536 ∧ 0 < m) ∧ Hp w [] [] w_) (fun ⟨m, r⟩ => m) ⟨n, 0⟩ [0, 3] (by kernel_rfl) ⟨⟨Nat.zero_add _, by omega, by omega⟩, H8⟩ ?_
    rintro ⟨m, r⟩ w17 ⟨hi18, H19⟩
    refine G.eq (M' := [(0, .int .i64 (m : Int)), (3, .int .i64 (r : Int))]) rfl ?_
    have H19 : Hp w [] [] w17 := H19
    obtain ⟨hcnt, hm16, hm0⟩ := hi18
    have hcl := cntH_le n
    refine G.seqK fun K20 hK21 => ?_
    refine G.seqK fun K22 hK23 => ?_
    refine G.region ?_
    refine GL.run (j := 2) 2 [0, 3, 8] [(0, .int .i64 (m : Int)), (3, .int .i64 (r : Int)), (8, .bool (decide (1 < (m : Int))))] (by kernel_rfl) rfl ?_
    refine GL.k rfl hK23 (fun _ _ h => h) ?_
    cases hb24 : (decide (1 < (m : Int)))
    · skip
      have hb24f := of_decide_eq_false hb24
      refine G.no rfl ?_
      refine G.exitK hK16 (fun _ _ h => h) ?_
      refine G.seqK fun K25 hK26 => ?_
      refine G.region ?_
      refine GL.run (j := 2) 2 [2] [(2, .int .i64 (r : Int))] (by kernel_rfl) rfl ?_
      refine GL.k rfl hK26 (fun _ _ h => h) ?_
      refine G.ret ?_
      intro F_ hF_ hM_
      refine hRet _ _ (bodyPost_1 rfl (RV.tmp rfl) ?_ F_ hF_ hM_)
      have e0 : rowsN n = r := by unfold rowsN; rw [hlb, if_pos rfl, ← hcnt, cntH_one (by omega), Nat.add_zero]
      rw [e0]
      exact ⟨rfl, H19.sub (List.nil_sublist _)⟩
    · skip
      have hb24f := of_decide_eq_true hb24
      refine G.yes rfl ?_
      refine G.skipK hK21 (fun _ _ h => h) ?_
      refine G.seqK fun K27 hK28 => ?_
      refine G.block ?_
      refine G.region ?_
      refine GL.run (j := 3) 3 [0, 3] [(0, .int .i64 (m : Int)), (3, .int .i64 (IntKind.i64.wrap ((r : Int) + 1)))] (by kernel_rfl) rfl ?_
      have e29 : (IntKind.i64.wrap ((r : Int) + 1)) = ((r + 1 : Nat) : Int) := by rw [in_i64 (by omega)]; omega
      refine GL.eq (M' := [(0, .int .i64 (m : Int)), (3, .int .i64 ((r + 1 : Nat) : Int))]) (by rw [e29]) ?_
      clear e29
      refine GL.k rfl hK28 (fun _ _ h => h) ?_
      refine G.region ?_
      refine GL.run (j := 4) 4 [0, 3] [(0, .int .i64 (IntKind.i64.wrap (Int.tdiv (IntKind.i64.wrap ((m : Int) + 1)) 2))), (3, .int .i64 ((r + 1 : Nat) : Int))] (by kernel_rfl) rfl ?_
      have e30 : (IntKind.i64.wrap ((m : Int) + 1)) = ((m + 1 : Nat) : Int) := by rw [in_i64 (by omega)]; omega
      have e31 : (IntKind.i64.wrap (Int.tdiv ((m + 1 : Nat) : Int) 2)) = ((((m + 1) / 2) : Nat) : Int) := i_quo (a := (m + 1)) 2 (by omega)
      refine GL.eq (M' := [(0, .int .i64 ((((m + 1) / 2) : Nat) : Int)), (3, .int .i64 ((r + 1 : Nat) : Int))]) (by rw [e30, e31]) ?_
      clear e30 e31
      refine GL.fit (ts := [0, 3]) (M' := [(0, .int .i64 ((((m + 1) / 2) : Nat) : Int)), (3, .int .i64 ((r + 1 : Nat) : Int))]) (by kernel_rfl) ?_
      refine GL.eq (M' := [(0, .int .i64 ((((m + 1) / 2) : Nat) : Int)), (3, .int .i64 (((r + 1) : Nat) : Int))]) (by rfl) ?_
      exact GL.again ⟨((m + 1) / 2), (r + 1)⟩ [0, 3] rfl (by kernel_rfl) (by show ((m + 1) / 2) < m; omega) ⟨⟨by rw [Nat.add_assoc, Nat.add_comm 1, ← cntH_step (by omega)]; exact hcnt, by omega, by omega⟩, H19⟩
def ha : List UInt8 := [191, 93, 58, 255, 183, 62, 253, 46, 198, 195, 106, 211, 17, 45, 217, 51, 239, 237, 99, 196, 225, 203, 255, 207, 168, 142, 39, 89, 193, 68, 242, 216]
theorem ha_is : sha (sha ([97] : List UInt8)) = ha := by
  rw [show sha ([97] : List UInt8) = ([202, 151, 129, 18, 202, 27, 189, 202, 250, 194, 49, 179, 154, 35, 220, 77, 167, 134, 239, 248, 20, 124, 78, 114, 185, 128, 119, 133, 175, 238, 72, 187] : List UInt8) by kernel_rfl]
  kernel_rfl
theorem lives_calls (w : World) : Calls Try.prog 7 #[] w fun e w' => e = .returned (.bool true) ∧ Hp w [] [] w' := by
  refine calls_G (args := []) Try.func7 rfl Try.ntmps7 rfl ?_
  intro Q0 hRet hNor hPan
  have H := Hp.start w
  have H : Hp w [] [] w := H
  refine G.seqK fun K1 hK2 => ?_
  refine G.region ?_
  refine GL.run (j := 1) 1 [] [] (by kernel_rfl) rfl ?_
  refine GL.k rfl hK2 (fun _ _ h => h) ?_
  refine G.seqK fun K3 hK4 => ?_
  refine G.region ?_
  obtain ⟨p5, w6, r7, H8⟩ := H.made (P := Try.prog) (Instr.buildSlice 49 1 #[(0, .int .u8 97)]) (fun b_ => .slice (some ⟨b_, 0, none⟩) 1 1) [.int .u8 97] 5 (by kernel_rfl)
  have H8 : Hp w [] [.blk p5 [.int .u8 97] 5] w6 := H8
  refine GL.sem (j := 1) (r7) [6] [(6, .slice (some ⟨p5, 0, none⟩) 1 1)] (by kernel_rfl) (by kernel_rfl) rfl ?_
  obtain ⟨w9, r10, H11⟩ := H8.mark (P := Try.prog) (o := 0) (T := 49) (n := 1) (c := 1) 0 rfl (by kernel_rfl)
  have H11 : Hp w [] [.blk p5 [.int .u8 97] 5] w9 := H11
  refine GL.sem (j := 2) (r10) [7] [(7, .slice (some ⟨p5, 0, none⟩) 1 1)] (by kernel_rfl) (by kernel_rfl) rfl ?_
  refine GL.call (j := 3) ((by have h_ := Double_calls (some ⟨p5, 0, none⟩) 1 1 ([97] : List UInt8) w9 (H11.rdBlk (o := 0) (xs := by8 ([97] : List UInt8)) 0 1 rfl rfl) rfl (by decide); rw [ha_is] at h_; exact h_)) (by kernel_rfl) rfl (fun e_ w12 hR => ?_)
  obtain ⟨rfl, H14⟩ := hR
  have H13 : Hp w [] [.blk p5 [.int .u8 97] 5] w12 := H11.callNil H14
  refine ⟨_, rfl, [8], [(8, .agg (by8 ha).toArray)], by kernel_rfl, ?_⟩
  obtain ⟨p15, w16, r17, H18⟩ := H13.alloc (P := Try.prog) 25 (by8 (List.replicate 32 0)) (by kernel_rfl)
  have H18 : Hp w [] [.blk p5 [.int .u8 97] 5, .blk p15 (by8 (List.replicate 32 0)) 25] w16 := H18
  refine GL.sem (j := 4) (r17) [1, 8] [(1, pt p15 0), (8, .agg (by8 ha).toArray)] (by kernel_rfl) (by kernel_rfl) rfl ?_
  obtain ⟨w19, r20, H21⟩ := H18.stA (P := Try.prog) (o := 0) (vs := by8 ha) (ty := 25) (m := 32) 1 rfl (by kernel_rfl) (by rw [by8_length, show ha.length = 32 from rfl]) (Nat.le_of_eq (by rw [Nat.zero_add]; exact ((show (by8 (List.replicate 32 0)).length = 32 from by rw [by8_length]; rfl)).symm)) (by8_one _)
  rw [st_whole (by rw [by8_length]; rfl)] at H21
  have H21 : Hp w [] [.blk p5 [.int .u8 97] 5, .blk p15 (by8 ha) 25] w19 := H21
  refine GL.semU (j := 5) r20 [1] [(1, pt p15 0)] (by kernel_rfl) rfl rfl rfl ?_
  refine GL.k rfl hK4 (fun _ _ h => h) ?_
  refine G.seqK fun K22 hK23 => ?_
  refine G.region ?_
  refine GL.sem (j := 1) (H21.ldA (o := 0) (ty := 25) (m := 32) (sub := by8 ha) 1 rfl (by kernel_rfl) (sub_whole (by rw [by8_length, show ha.length = 32 from rfl])) (by rw [by8_length, show ha.length = 32 from rfl])) [1, 10] [(1, pt p15 0), (10, .agg (by8 ha).toArray)] (by kernel_rfl) (by kernel_rfl) rfl ?_
  obtain ⟨p24, w25, r26, H27⟩ := H21.madeRow (P := Try.prog) (Instr.buildSlice 22 1 #[(0, .agg (by8 ha).toArray)]) (fun b_ => .slice (some ⟨b_, 0, none⟩) 1 1) (by8 ha) 25 1 1 32 (built1_22 ha (by rw [show ha.length = 32 from rfl])) (by decide) (by decide) (by rw [by8_length, show ha.length = 32 from rfl])
  rw [List.take_of_length_le (show (by8 ha).length ≤ 1 * 32 from Nat.le_of_eq (by rw [by8_length, show ha.length = 32 from rfl]))] at H27
  rw [show by8 ha = by8 (flat8 [ha]) by simp [flat8]] at H27
  have H27 : Hp w [] [.blk p5 [.int .u8 97] 5, .blk p15 (by8 ha) 25, .row (some ⟨p24, 0, none⟩) 1 1 25 32 (by8 (flat8 [ha]))] w25 := H27
  refine GL.sem (j := 2) (r26) [1, 11] [(1, pt p15 0), (11, .slice (some ⟨p24, 0, none⟩) 1 1)] (by kernel_rfl) (by kernel_rfl) rfl ?_
  refine GL.call (j := 3) (Root_calls (some ⟨p24, 0, none⟩) 1 [ha] w25 (H27.rdRowN 2 rfl) (by intro x hx; simp at hx; subst hx; rfl) (by decide)) (by kernel_rfl) rfl (fun e_ w28 hR => ?_)
  obtain ⟨rfl, H30⟩ := hR
  have H29 : Hp w [] [.blk p5 [.int .u8 97] 5, .blk p15 (by8 ha) 25, .row (some ⟨p24, 0, none⟩) 1 1 25 32 (by8 (flat8 [ha]))] w28 := H27.callNil H30
  refine ⟨_, rfl, [1, 12], [(1, pt p15 0), (12, .tuple #[.agg (by8 (rootV [ha])).toArray, .int .i64 (((rootE [ha]) : Nat) : Int)])], by kernel_rfl, ?_⟩
  refine GL.run (j := 6) 3 [1, 13, 14] [(1, pt p15 0), (13, .agg (by8 (rootV [ha])).toArray), (14, .int .i64 (((rootE [ha]) : Nat) : Int))] (by kernel_rfl) rfl ?_
  obtain ⟨p31, w32, r33, H34⟩ := H29.alloc (P := Try.prog) 25 (by8 (List.replicate 32 0)) (by kernel_rfl)
  have H34 : Hp w [] [.blk p5 [.int .u8 97] 5, .blk p15 (by8 ha) 25, .row (some ⟨p24, 0, none⟩) 1 1 25 32 (by8 (flat8 [ha])), .blk p31 (by8 (List.replicate 32 0)) 25] w32 := H34
  refine GL.sem (j := 7) (r33) [1, 2, 13, 14] [(1, pt p15 0), (2, pt p31 0), (13, .agg (by8 (rootV [ha])).toArray), (14, .int .i64 (((rootE [ha]) : Nat) : Int))] (by kernel_rfl) (by kernel_rfl) rfl ?_
  obtain ⟨w35, r36, H37⟩ := H34.stA (P := Try.prog) (o := 0) (vs := by8 (rootV [ha])) (ty := 25) (m := 32) 3 rfl (by kernel_rfl) (by rw [by8_length, show (rootV [ha]).length = 32 by kernel_rfl]) (Nat.le_of_eq (by rw [Nat.zero_add]; exact ((show (by8 (List.replicate 32 0)).length = 32 from by rw [by8_length]; rfl)).symm)) (by8_one _)
  rw [st_whole (by rw [by8_length]; rfl)] at H37
  have H37 : Hp w [] [.blk p5 [.int .u8 97] 5, .blk p15 (by8 ha) 25, .row (some ⟨p24, 0, none⟩) 1 1 25 32 (by8 (flat8 [ha])), .blk p31 (by8 (rootV [ha])) 25] w35 := H37
  refine GL.semU (j := 8) r36 [1, 2, 14] [(1, pt p15 0), (2, pt p31 0), (14, .int .i64 (((rootE [ha]) : Nat) : Int))] (by kernel_rfl) rfl rfl rfl ?_
  refine GL.run (j := 9) 1 [1, 2, 3] [(1, pt p15 0), (2, pt p31 0), (3, .int .i64 (((rootE [ha]) : Nat) : Int))] (by kernel_rfl) rfl ?_
  refine GL.k rfl hK23 (fun _ _ h => h) ?_
  refine G.seqK fun K38 hK39 => ?_
  refine G.region ?_
  refine GL.sem (j := 1) (H37.ldA (o := 0) (ty := 25) (m := 32) (sub := by8 ha) 1 rfl (by kernel_rfl) (sub_whole (by rw [by8_length, show ha.length = 32 from rfl])) (by rw [by8_length, show ha.length = 32 from rfl])) [1, 2, 3, 16] [(1, pt p15 0), (2, pt p31 0), (3, .int .i64 (((rootE [ha]) : Nat) : Int)), (16, .agg (by8 ha).toArray)] (by kernel_rfl) (by kernel_rfl) rfl ?_
  refine GL.sem (j := 2) (H37.ldA (o := 0) (ty := 25) (m := 32) (sub := by8 ha) 1 rfl (by kernel_rfl) (sub_whole (by rw [by8_length, show ha.length = 32 from rfl])) (by rw [by8_length, show ha.length = 32 from rfl])) [1, 2, 3, 16, 17] [(1, pt p15 0), (2, pt p31 0), (3, .int .i64 (((rootE [ha]) : Nat) : Int)), (16, .agg (by8 ha).toArray), (17, .agg (by8 ha).toArray)] (by kernel_rfl) (by kernel_rfl) rfl ?_
  refine GL.sem (j := 3) (H37.ldA (o := 0) (ty := 25) (m := 32) (sub := by8 ha) 1 rfl (by kernel_rfl) (sub_whole (by rw [by8_length, show ha.length = 32 from rfl])) (by rw [by8_length, show ha.length = 32 from rfl])) [1, 2, 3, 16, 17, 18] [(1, pt p15 0), (2, pt p31 0), (3, .int .i64 (((rootE [ha]) : Nat) : Int)), (16, .agg (by8 ha).toArray), (17, .agg (by8 ha).toArray), (18, .agg (by8 ha).toArray)] (by kernel_rfl) (by kernel_rfl) rfl ?_
  obtain ⟨p40, w41, r42, H43⟩ := H37.madeRow (P := Try.prog) (Instr.buildSlice 22 3 #[(0, .agg (by8 ha).toArray), (1, .agg (by8 ha).toArray), (2, .agg (by8 ha).toArray)]) (fun b_ => .slice (some ⟨b_, 0, none⟩) 3 3) (by8 (flat8 [ha, ha, ha])) 25 3 3 32 (built3_22 ha (by rw [show ha.length = 32 from rfl])) (by decide) (by decide) (by rw [by8_length, flat8_length (by intro x hx; simp at hx; subst hx; rw [show ha.length = 32 from rfl])]; rfl)
  rw [List.take_of_length_le (show (by8 (flat8 [ha, ha, ha])).length ≤ 3 * 32 from Nat.le_of_eq (by rw [by8_length, flat8_length (by intro x hx; simp at hx; subst hx; rw [show ha.length = 32 from rfl])]; rfl))] at H43
  have H43 : Hp w [] [.blk p5 [.int .u8 97] 5, .blk p15 (by8 ha) 25, .row (some ⟨p24, 0, none⟩) 1 1 25 32 (by8 (flat8 [ha])), .blk p31 (by8 (rootV [ha])) 25, .row (some ⟨p40, 0, none⟩) 3 3 25 32 (by8 (flat8 [ha, ha, ha]))] w41 := H43
  refine GL.sem (j := 4) (r42) [1, 2, 3, 19] [(1, pt p15 0), (2, pt p31 0), (3, .int .i64 (((rootE [ha]) : Nat) : Int)), (19, .slice (some ⟨p40, 0, none⟩) 3 3)] (by kernel_rfl) (by kernel_rfl) rfl ?_
  refine GL.call (j := 5) (Way_calls (some ⟨p40, 0, none⟩) 3 [ha, ha, ha] 2 w41 (H43.rdRowN 4 rfl) (by intro x hx; simp at hx; subst hx; rfl) (by decide) (by decide)) (by kernel_rfl) rfl (fun e_ w46 hR => ?_)
  obtain ⟨A44, c45, rfl, H48⟩ := hR
  have H47 : Hp w [] [.blk p5 [.int .u8 97] 5, .blk p15 (by8 ha) 25, .row (some ⟨p24, 0, none⟩) 1 1 25 32 (by8 (flat8 [ha])), .blk p31 (by8 (rootV [ha])) 25, .row (some ⟨p40, 0, none⟩) 3 3 25 32 (by8 (flat8 [ha, ha, ha])), .row A44 ((wayV [ha, ha, ha] 2).length) c45 25 32 (by8 (flat8 (wayV [ha, ha, ha] 2)))] w46 := H43.callNew H48
  refine ⟨_, rfl, [1, 2, 3, 20], [(1, pt p15 0), (2, pt p31 0), (3, .int .i64 (((rootE [ha]) : Nat) : Int)), (20, .tuple #[.slice A44 ((wayV [ha, ha, ha] 2).length) c45, .int .i64 (((wayE [ha, ha, ha] 2) : Nat) : Int)])], by kernel_rfl, ?_⟩
  refine GL.run (j := 10) 5 [1, 2, 3, 4, 5] [(1, pt p15 0), (2, pt p31 0), (3, .int .i64 (((rootE [ha]) : Nat) : Int)), (4, .slice A44 ((wayV [ha, ha, ha] 2).length) c45), (5, .int .i64 (((wayE [ha, ha, ha] 2) : Nat) : Int))] (by kernel_rfl) rfl ?_
  refine GL.k rfl hK39 (fun _ _ h => h) ?_
  refine G.seqK fun K49 hK50 => ?_
  refine G.region ?_
  refine GL.run (j := 3) 3 [1, 2, 4, 5, 25] [(1, pt p15 0), (2, pt p31 0), (4, .slice A44 ((wayV [ha, ha, ha] 2).length) c45), (5, .int .i64 (((wayE [ha, ha, ha] 2) : Nat) : Int)), (25, .bool ((((rootE [ha]) : Nat) : Int) == 0))] (by kernel_rfl) rfl ?_
  have hb51 : ((((rootE [ha]) : Nat) : Int) == 0) = true := by kernel_rfl
  rw [hb51]
  refine GL.run (j := 7) 4 [1, 2, 4, 29] [(1, pt p15 0), (2, pt p31 0), (4, .slice A44 ((wayV [ha, ha, ha] 2).length) c45), (29, .bool ((((wayE [ha, ha, ha] 2) : Nat) : Int) == 0))] (by kernel_rfl) rfl ?_
  have hb52 : ((((wayE [ha, ha, ha] 2) : Nat) : Int) == 0) = true := by kernel_rfl
  rw [hb52]
  refine GL.sem (j := 8) (H47.ldA (o := 0) (ty := 25) (m := 32) (sub := by8 (rootV [ha])) 3 rfl (by kernel_rfl) (sub_whole (by rw [by8_length, show (rootV [ha]).length = 32 by kernel_rfl])) (by rw [by8_length, show (rootV [ha]).length = 32 by kernel_rfl])) [1, 4, 29, 30] [(1, pt p15 0), (4, .slice A44 ((wayV [ha, ha, ha] 2).length) c45), (29, .bool true), (30, .agg (by8 (rootV [ha])).toArray)] (by kernel_rfl) (by kernel_rfl) rfl ?_
  refine GL.sem (j := 9) (H47.ldA (o := 0) (ty := 25) (m := 32) (sub := by8 ha) 1 rfl (by kernel_rfl) (sub_whole (by rw [by8_length, show ha.length = 32 from rfl])) (by rw [by8_length, show ha.length = 32 from rfl])) [1, 4, 29, 30, 31] [(1, pt p15 0), (4, .slice A44 ((wayV [ha, ha, ha] 2).length) c45), (29, .bool true), (30, .agg (by8 (rootV [ha])).toArray), (31, .agg (by8 ha).toArray)] (by kernel_rfl) (by kernel_rfl) rfl ?_
  refine GL.sem (j := 10) (run_by8_eql (P := Try.prog) (t := 25) (n := 32) (x := (.tmp 30)) (y := (.tmp 31)) (by kernel_rfl) (rootV [ha]) ha (by rw [show (rootV [ha]).length = 32 by kernel_rfl]) (by rw [show ha.length = 32 from rfl]) _) [1, 4, 29, 32] [(1, pt p15 0), (4, .slice A44 ((wayV [ha, ha, ha] 2).length) c45), (29, .bool true), (32, .bool (decide ((rootV [ha]) = ha)))] (by kernel_rfl) (by kernel_rfl) rfl ?_
  refine GL.run (j := 12) 2 [1, 4, 34] [(1, pt p15 0), (4, .slice A44 ((wayV [ha, ha, ha] 2).length) c45), (34, .bool (decide ((rootV [ha]) = ha)))] (by kernel_rfl) rfl ?_
  have hb53 : (decide ((rootV [ha]) = ha)) = true := by kernel_rfl
  rw [hb53]
  refine GL.sem (j := 13) (H47.ldA (o := 0) (ty := 25) (m := 32) (sub := by8 ha) 1 rfl (by kernel_rfl) (sub_whole (by rw [by8_length, show ha.length = 32 from rfl])) (by rw [by8_length, show ha.length = 32 from rfl])) [4, 34, 35] [(4, .slice A44 ((wayV [ha, ha, ha] 2).length) c45), (34, .bool true), (35, .agg (by8 ha).toArray)] (by kernel_rfl) (by kernel_rfl) rfl ?_
  refine GL.call (j := 14) (Zero_calls ha (by rw [show ha.length = 32 from rfl]) w46) (by kernel_rfl) rfl (fun e_ w54 hR => ?_)
  obtain ⟨rfl, H56⟩ := hR
  have H55 : Hp w [] [.blk p5 [.int .u8 97] 5, .blk p15 (by8 ha) 25, .row (some ⟨p24, 0, none⟩) 1 1 25 32 (by8 (flat8 [ha])), .blk p31 (by8 (rootV [ha])) 25, .row (some ⟨p40, 0, none⟩) 3 3 25 32 (by8 (flat8 [ha, ha, ha])), .row A44 ((wayV [ha, ha, ha] 2).length) c45 25 32 (by8 (flat8 (wayV [ha, ha, ha] 2)))] w54 := H47.callNil H56
  refine ⟨_, rfl, [4, 34, 36], [(4, .slice A44 ((wayV [ha, ha, ha] 2).length) c45), (34, .bool true), (36, .bool (decide (ha = (List.replicate 32 0))))], by kernel_rfl, ?_⟩
  refine GL.run (j := 17) 3 [4, 39] [(4, .slice A44 ((wayV [ha, ha, ha] 2).length) c45), (39, .bool (!(decide (ha = (List.replicate 32 0)))))] (by kernel_rfl) rfl ?_
  have hb57 : (!(decide (ha = (List.replicate 32 0)))) = true := by rw [show (decide (ha = (List.replicate 32 0))) = false from by kernel_rfl]; rfl
  rw [hb57]
  refine GL.run (j := 22) 5 [0] [(0, .bool ((((wayV [ha, ha, ha] 2).length : Nat) : Int) == 2))] (by kernel_rfl) rfl ?_
  refine GL.k rfl hK50 (fun _ _ h => h) ?_
  refine G.ret ?_
  intro F_ hF_ hM_
  refine hRet _ _ (bodyPost_1 rfl (RV.tmp rfl) ?_ F_ hF_ hM_)
  have hb58 : ((((wayV [ha, ha, ha] 2).length : Nat) : Int) == 2) = true := by kernel_rfl
  rw [hb58]
  exact ⟨rfl, H55.sub (List.nil_sublist _)⟩
theorem take_snoc8 {X : List UInt8} {k : Nat} (h : k < X.length) : List.take (k + 1) X = List.take k X ++ [X.getD k 0] := by
  rw [List.take_add_one, getD8 h]
  rfl
theorem RefBoth_calls (X Y : List UInt8) (hX : X.length = 32) (hY : Y.length = 32) (w : World) : Calls Try.prog 20 #[.agg (by8 X).toArray, .agg (by8 Y).toArray] w fun e w' => e = .returned (.agg (by8 (bothH X Y)).toArray) ∧ Hp w [] [] w' := by
  refine calls_G (args := [.agg (by8 X).toArray, .agg (by8 Y).toArray]) Try.func20 rfl Try.ntmps20 rfl ?_
  intro Q0 hRet hNor hPan
  have H := Hp.start w
  have H : Hp w [] [] w := H
  refine G.seqK fun K1 hK2 => ?_
  refine G.region ?_
  obtain ⟨p3, w4, r5, H6⟩ := H.box (P := Try.prog) 24 (by8 X) (.agg (by8 X).toArray) rfl
  have H6 : Hp w [] [.blk p3 (by8 X) 24] w4 := H6
  refine GL.sem (j := 1) (r5) [1, 2] [(1, .agg (by8 Y).toArray), (2, pt p3 0)] (by kernel_rfl) (by kernel_rfl) rfl ?_
  obtain ⟨p7, w8, r9, H10⟩ := H6.box (P := Try.prog) 24 (by8 Y) (.agg (by8 Y).toArray) rfl
  have H10 : Hp w [] [.blk p3 (by8 X) 24, .blk p7 (by8 Y) 24] w8 := H10
  refine GL.sem (j := 2) (r9) [2, 3] [(2, pt p3 0), (3, pt p7 0)] (by kernel_rfl) (by kernel_rfl) rfl ?_
  obtain ⟨p11, w12, r13, H14⟩ := H10.alloc (P := Try.prog) 24 (by8 (List.replicate 32 0)) (by kernel_rfl)
  have H14 : Hp w [] [.blk p3 (by8 X) 24, .blk p7 (by8 Y) 24, .blk p11 (by8 (List.replicate 32 0)) 24] w12 := H14
  refine GL.sem (j := 3) (r13) [2, 3, 4] [(2, pt p3 0), (3, pt p7 0), (4, pt p11 0)] (by kernel_rfl) (by kernel_rfl) rfl ?_
  refine GL.k rfl hK2 (fun _ _ h => h) ?_
  refine G.seqK fun K15 hK16 => ?_
  refine G.region ?_
  obtain ⟨p17, w18, r19, H20⟩ := H14.madeRow (P := Try.prog) (Instr.buildSlice 49 0 #[]) (fun b_ => .slice (some ⟨b_, 0, none⟩) 0 0) [] 5 0 0 1 (by kernel_rfl) (by decide) (by decide) rfl
  have H20 : Hp w [] [.blk p3 (by8 X) 24, .blk p7 (by8 Y) 24, .blk p11 (by8 (List.replicate 32 0)) 24, .row (some ⟨p17, 0, none⟩) 0 0 5 1 (by8 ([] : List UInt8))] w18 := H20
  refine GL.sem (j := 1) (r19) [2, 3, 4, 8] [(2, pt p3 0), (3, pt p7 0), (4, pt p11 0), (8, .slice (some ⟨p17, 0, none⟩) 0 0)] (by kernel_rfl) (by kernel_rfl) rfl ?_
  refine GL.run (j := 2) 1 [2, 3, 4, 5] [(2, pt p3 0), (3, pt p7 0), (4, pt p11 0), (5, .slice (some ⟨p17, 0, none⟩) 0 0)] (by kernel_rfl) rfl ?_
  refine GL.k rfl hK16 (fun _ _ h => h) ?_
  refine G.seqK fun K21 hK22 => ?_
  refine G.seqK fun K23 hK24 => ?_
  refine G.region ?_
  refine GL.run (j := 1) 1 [2, 3, 4, 5, 9] [(2, pt p3 0), (3, pt p7 0), (4, pt p11 0), (5, .slice (some ⟨p17, 0, none⟩) 0 0), (9, .int .i64 0)] (by kernel_rfl) rfl ?_
  refine GL.k rfl hK24 (fun _ _ h => h) ?_
  refine G.block ?_
  have H25 : Hp w [] [.blk p3 (by8 X) 24, .blk p7 (by8 Y) 24, .blk p11 (by8 (List.replicate 32 0)) 24, .row (some ⟨p17, 0, none⟩) 0 0 5 1 (by8 (List.take 0 X))] w18 := H20
  refine G.fit [2, 3, 4, 5, 9] (M' := [(2, pt p3 0), (3, pt p7 0), (4, pt p11 0), (5, .slice (some ⟨p17, 0, none⟩) 0 0), (9, .int .i64 0)]) (by kernel_rfl) ?_
  refine G.loop (X := Nat × Option Addr × Nat) (fun ⟨k, A_, c_⟩ => [(2, pt p3 0), (3, pt p7 0), (4, pt p11 0), (5, .slice A_ k c_), (9, .int .i64 (k : Int))]) (fun ⟨k, A_, c_⟩ w_ => (k ≤ 32) ∧ Hp w [] [.blk p3 (by8 X) 24, .blk p7 (by8 Y) 24, .blk p11 (by8 (List.replicate 32 0)) 24, .row A_ k c_ 5 1 (by8 (List.take k X))] w_) (fun ⟨k, A_, c_⟩ => 32 - k) ⟨0, (some ⟨p17, 0, none⟩), 0⟩ [2, 3, 4, 5, 9] (by kernel_rfl) ⟨by omega, H25⟩ ?_
  rintro ⟨k, A_, c_⟩ w26 ⟨hi27, H28⟩
  refine G.eq (M' := [(2, pt p3 0), (3, pt p7 0), (4, pt p11 0), (5, .slice A_ k c_), (9, .int .i64 (k : Int))]) rfl ?_
  have H28 : Hp w [] [.blk p3 (by8 X) 24, .blk p7 (by8 Y) 24, .blk p11 (by8 (List.replicate 32 0)) 24, .row A_ k c_ 5 1 (by8 (List.take k X))] w26 := H28
  have hk32 := hi27
  refine G.seqK fun K29 hK30 => ?_
  refine G.region ?_
  refine GL.run (j := 1) 1 [2, 3, 4, 5, 9, 10] [(2, pt p3 0), (3, pt p7 0), (4, pt p11 0), (5, .slice A_ k c_), (9, .int .i64 (k : Int)), (10, .bool (decide ((k : Int) < 32)))] (by kernel_rfl) rfl ?_
  refine GL.k rfl hK30 (fun _ _ h => h) ?_
  refine G.seqK fun K31 hK32 => ?_
  cases hb33 : (decide ((k : Int) < 32))
  · skip
    have hb33f := of_decide_eq_false hb33
    refine G.no rfl ?_
    refine G.exitK hK22 (fun _ _ h => h) ?_
    refine G.seqK fun K34 hK35 => ?_
    refine G.seqK fun K36 hK37 => ?_
    refine G.region ?_
    refine GL.run (j := 1) 1 [3, 4, 5, 19] [(3, pt p7 0), (4, pt p11 0), (5, .slice A_ k c_), (19, .int .i64 0)] (by kernel_rfl) rfl ?_
    refine GL.k rfl hK37 (fun _ _ h => h) ?_
    refine G.block ?_
    obtain rfl : k = 32 := by omega
    have H38 : Hp w [] [.blk p3 (by8 X) 24, .blk p7 (by8 Y) 24, .blk p11 (by8 (List.replicate 32 0)) 24, .row A_ (32 + 0) c_ 5 1 (by8 (X ++ List.take 0 Y))] w26 := (by have h_ := H28; rw [List.take_of_length_le (l := X) (by omega)] at h_; rw [List.take_zero, List.append_nil]; exact h_)
    refine G.fit [3, 4, 5, 19] (M' := [(3, pt p7 0), (4, pt p11 0), (5, .slice A_ (32 + 0) c_), (19, .int .i64 0)]) (by kernel_rfl) ?_
    refine G.loop (X := Nat × Option Addr × Nat) (fun ⟨k, A_, c_⟩ => [(3, pt p7 0), (4, pt p11 0), (5, .slice A_ (32 + k) c_), (19, .int .i64 (k : Int))]) (fun ⟨k, A_, c_⟩ w_ => (k ≤ 32) ∧ Hp w [] [.blk p3 (by8 X) 24, .blk p7 (by8 Y) 24, .blk p11 (by8 (List.replicate 32 0)) 24, .row A_ (32 + k) c_ 5 1 (by8 (X ++ List.take k Y))] w_) (fun ⟨k, A_, c_⟩ => 32 - k) ⟨0, A_, c_⟩ [3, 4, 5, 19] (by kernel_rfl) ⟨by omega, H38⟩ ?_
    rintro ⟨k, A_, c_⟩ w39 ⟨hi40, H41⟩
    refine G.eq (M' := [(3, pt p7 0), (4, pt p11 0), (5, .slice A_ (32 + k) c_), (19, .int .i64 (k : Int))]) rfl ?_
    have H41 : Hp w [] [.blk p3 (by8 X) 24, .blk p7 (by8 Y) 24, .blk p11 (by8 (List.replicate 32 0)) 24, .row A_ (32 + k) c_ 5 1 (by8 (X ++ List.take k Y))] w39 := H41
    have hk32 := hi40
    refine G.seqK fun K42 hK43 => ?_
    refine G.region ?_
    refine GL.run (j := 1) 1 [3, 4, 5, 19, 20] [(3, pt p7 0), (4, pt p11 0), (5, .slice A_ (32 + k) c_), (19, .int .i64 (k : Int)), (20, .bool (decide ((k : Int) < 32)))] (by kernel_rfl) rfl ?_
    refine GL.k rfl hK43 (fun _ _ h => h) ?_
    refine G.seqK fun K44 hK45 => ?_
    cases hb46 : (decide ((k : Int) < 32))
    · skip
      have hb46f := of_decide_eq_false hb46
      refine G.no rfl ?_
      refine G.exitK hK35 (fun _ _ h => h) ?_
      refine G.seqK fun K47 hK48 => ?_
      refine G.region ?_
      refine GL.run (j := 1) 1 [4, 29] [(4, pt p11 0), (29, .slice A_ (32 + k) c_)] (by kernel_rfl) rfl ?_
      refine GL.call (j := 2) (RefDouble_calls A_ (32 + k) c_ (X ++ List.take k Y) w39 (H41.rdRow 3 rfl) (by rw [List.length_append, List.length_take, hX, hY]; omega) (by rw [List.length_append, List.length_take, hX, hY]; omega)) (by kernel_rfl) rfl (fun e_ w49 hR => ?_)
      obtain ⟨rfl, H51⟩ := hR
      have H50 : Hp w [] [.blk p3 (by8 X) 24, .blk p7 (by8 Y) 24, .blk p11 (by8 (List.replicate 32 0)) 24, .row A_ (32 + k) c_ 5 1 (by8 (X ++ List.take k Y))] w49 := H41.callNil H51
      refine ⟨_, rfl, [4, 30], [(4, pt p11 0), (30, .agg (by8 (sha (sha (X ++ List.take k Y)))).toArray)], by kernel_rfl, ?_⟩
      obtain ⟨w52, r53, H54⟩ := H50.stA (P := Try.prog) (o := 0) (vs := by8 (sha (sha (X ++ List.take k Y)))) (ty := 24) (m := 32) 2 rfl (by kernel_rfl) (by rw [by8_length, sha_length]) (Nat.le_of_eq (by rw [Nat.zero_add]; exact ((show (by8 (List.replicate 32 0)).length = 32 from by rw [by8_length]; rfl)).symm)) (by8_one _)
      rw [st_whole (by rw [by8_length]; rfl)] at H54
      have H54 : Hp w [] [.blk p3 (by8 X) 24, .blk p7 (by8 Y) 24, .blk p11 (by8 (sha (sha (X ++ List.take k Y)))) 24, .row A_ (32 + k) c_ 5 1 (by8 (X ++ List.take k Y))] w52 := H54
      refine GL.semU (j := 3) r53 [4] [(4, pt p11 0)] (by kernel_rfl) rfl rfl rfl ?_
      refine GL.k rfl hK48 (fun _ _ h => h) ?_
      refine G.ret ?_
      intro F_ hF_ hM_
      refine hRet _ _ (bodyPost_1 rfl (RV.cell rfl (H54.ldA (o := 0) (ty := 24) (m := 32) (sub := by8 (sha (sha (X ++ List.take k Y)))) 2 rfl (by kernel_rfl) (sub_whole (by rw [by8_length, sha_length])) (by rw [by8_length, sha_length]))) ?_ F_ hF_ hM_)
      have eY : List.take k Y = Y := List.take_of_length_le (by omega)
      rw [show bothH X Y = sha (sha (X ++ List.take k Y)) by rw [eY]; rfl]
      exact ⟨rfl, H54.sub (List.nil_sublist _)⟩
    · skip
      have hb46f := of_decide_eq_true hb46
      refine G.yes rfl ?_
      refine G.skipK hK45 (fun _ _ h => h) ?_
      refine G.seqK fun K55 hK56 => ?_
      refine G.block ?_
      refine G.seqK fun K57 hK58 => ?_
      refine G.region ?_
      refine GL.run (j := 2) 2 [3, 4, 5, 7, 19] [(3, pt p7 0), (4, pt p11 0), (5, .slice A_ (32 + k) c_), (7, .int .i64 (k : Int)), (19, .int .i64 (k : Int))] (by kernel_rfl) rfl ?_
      refine GL.k rfl hK58 (fun _ _ h => h) ?_
      refine G.region ?_
      refine GL.run (j := 2) 2 [3, 4, 19, 22, 23] [(3, pt p7 0), (4, pt p11 0), (19, .int .i64 (k : Int)), (22, .slice A_ (32 + k) c_), (23, .int .i64 (k : Int))] (by kernel_rfl) rfl ?_
      refine GL.sem (j := 3) (run_idxArr (P := Try.prog) (k := .i64) (t := 24) (len := 32) (sz := 1) (b := p7) (o := 0) (j := k) (by kernel_rfl) rfl (by omega)) [3, 4, 19, 22, 24] [(3, pt p7 0), (4, pt p11 0), (19, .int .i64 (k : Int)), (22, .slice A_ (32 + k) c_), (24, pt p7 (0 + k * 1))] (by kernel_rfl) (by kernel_rfl) rfl ?_
      refine GL.sem (j := 4) (H41.ld (o := (0 + k * 1)) (ty := 5) (v := .int .u8 (((Y.getD k 0)).toNat : Int)) 1 rfl (by kernel_rfl) (by rw [show (0 + k * 1) = k by omega]; exact by8_at (getD8 (by rw [hY]; omega)))) [3, 4, 19, 22, 25] [(3, pt p7 0), (4, pt p11 0), (19, .int .i64 (k : Int)), (22, .slice A_ (32 + k) c_), (25, .int .u8 (((Y.getD k 0)).toNat : Int))] (by kernel_rfl) (by kernel_rfl) rfl ?_
      obtain ⟨p59, w60, r61, H62⟩ := H41.madeRow (P := Try.prog) (Instr.buildSlice 49 1 #[(0, .int .u8 (((Y.getD k 0)).toNat : Int))]) (fun b_ => .slice (some ⟨b_, 0, none⟩) 1 1) [.int .u8 (((Y.getD k 0)).toNat : Int)] 5 1 1 1 (by kernel_rfl) (by decide) (by decide) rfl
      have H62 : Hp w [] [.blk p3 (by8 X) 24, .blk p7 (by8 Y) 24, .blk p11 (by8 (List.replicate 32 0)) 24, .row A_ (32 + k) c_ 5 1 (by8 (X ++ List.take k Y)), .row (some ⟨p59, 0, none⟩) 1 1 5 1 (by8 ([((Y.getD k 0))] : List UInt8))] w60 := H62
      refine GL.sem (j := 5) (r61) [3, 4, 19, 22, 26] [(3, pt p7 0), (4, pt p11 0), (19, .int .i64 (k : Int)), (22, .slice A_ (32 + k) c_), (26, .slice (some ⟨p59, 0, none⟩) 1 1)] (by kernel_rfl) (by kernel_rfl) rfl ?_
      obtain ⟨A63, c64, w65, r66, H67⟩ := H62.append (P := Try.prog) (e := 5) (sz := 1) (by_ := 1) (n := (32 + k)) (c := c_) (m := 1) (d := 1) (t := 49) (ty := 49) (xs := by8 (X ++ List.take k Y)) (news := by8 ([((Y.getD k 0))] : List UInt8)) 3 rfl (by kernel_rfl) (H62.rdRow 4 rfl) (by first | (simp [by8_length]; done) | (rw [by8_length]; omega) | (rw [by8_length, putB_length])) (by8_one _) (by omega) (by simp only [maxLen]; omega)
      rw [← by8_append] at H67
      have H67 : Hp w [] [.blk p3 (by8 X) 24, .blk p7 (by8 Y) 24, .blk p11 (by8 (List.replicate 32 0)) 24, .row A63 ((32 + k) + 1) c64 5 1 (by8 ((X ++ List.take k Y) ++ ([((Y.getD k 0))] : List UInt8))), .row (some ⟨p59, 0, none⟩) 1 1 5 1 (by8 ([((Y.getD k 0))] : List UInt8))] w65 := H67
      refine GL.sem (j := 6) (r66) [3, 4, 19, 27] [(3, pt p7 0), (4, pt p11 0), (19, .int .i64 (k : Int)), (27, .slice A63 ((32 + k) + 1) c64)] (by kernel_rfl) (by kernel_rfl) rfl ?_
      refine GL.run (j := 7) 1 [3, 4, 5, 19] [(3, pt p7 0), (4, pt p11 0), (5, .slice A63 ((32 + k) + 1) c64), (19, .int .i64 (k : Int))] (by kernel_rfl) rfl ?_
      refine GL.k rfl hK56 (fun _ _ h => h) ?_
      refine G.region ?_
      refine GL.run (j := 2) 2 [3, 4, 5, 19] [(3, pt p7 0), (4, pt p11 0), (5, .slice A63 ((32 + k) + 1) c64), (19, .int .i64 (IntKind.i64.wrap ((k : Int) + 1)))] (by kernel_rfl) rfl ?_
      have e68 : (IntKind.i64.wrap ((k : Int) + 1)) = ((k + 1 : Nat) : Int) := by rw [in_i64 (by omega)]; omega
      refine GL.eq (M' := [(3, pt p7 0), (4, pt p11 0), (5, .slice A63 ((32 + k) + 1) c64), (19, .int .i64 ((k + 1 : Nat) : Int))]) (by rw [e68]) ?_
      clear e68
      have H69 : Hp w [] [.blk p3 (by8 X) 24, .blk p7 (by8 Y) 24, .blk p11 (by8 (List.replicate 32 0)) 24, .row A63 ((32 + k) + 1) c64 5 1 (by8 ((X ++ List.take k Y) ++ ([((Y.getD k 0))] : List UInt8)))] w65 := H67.sub (List.Sublist.cons_cons _ (List.Sublist.cons_cons _ (List.Sublist.cons_cons _ (List.Sublist.cons_cons _ (List.Sublist.cons _ (List.Sublist.slnil))))))
      have H70 : Hp w [] [.blk p3 (by8 X) 24, .blk p7 (by8 Y) 24, .blk p11 (by8 (List.replicate 32 0)) 24, .row A63 (32 + (k + 1)) c64 5 1 (by8 (X ++ List.take (k + 1) Y))] w65 := by rw [take_snoc8 (by omega), ← List.append_assoc]; exact H69
      refine GL.fit (ts := [3, 4, 5, 19]) (M' := [(3, pt p7 0), (4, pt p11 0), (5, .slice A63 ((32 + k) + 1) c64), (19, .int .i64 ((k + 1 : Nat) : Int))]) (by kernel_rfl) ?_
      refine GL.eq (M' := [(3, pt p7 0), (4, pt p11 0), (5, .slice A63 (32 + (k + 1)) c64), (19, .int .i64 (((k + 1) : Nat) : Int))]) (by rfl) ?_
      exact GL.again ⟨(k + 1), A63, c64⟩ [3, 4, 5, 19] rfl (by kernel_rfl) (by show 32 - (k + 1) < 32 - k; omega) ⟨by omega, H70⟩
  · skip
    have hb33f := of_decide_eq_true hb33
    refine G.yes rfl ?_
    refine G.skipK hK32 (fun _ _ h => h) ?_
    refine G.seqK fun K71 hK72 => ?_
    refine G.block ?_
    refine G.seqK fun K73 hK74 => ?_
    refine G.region ?_
    refine GL.run (j := 2) 2 [2, 3, 4, 5, 6, 9] [(2, pt p3 0), (3, pt p7 0), (4, pt p11 0), (5, .slice A_ k c_), (6, .int .i64 (k : Int)), (9, .int .i64 (k : Int))] (by kernel_rfl) rfl ?_
    refine GL.k rfl hK74 (fun _ _ h => h) ?_
    refine G.region ?_
    refine GL.run (j := 2) 2 [2, 3, 4, 9, 12, 13] [(2, pt p3 0), (3, pt p7 0), (4, pt p11 0), (9, .int .i64 (k : Int)), (12, .slice A_ k c_), (13, .int .i64 (k : Int))] (by kernel_rfl) rfl ?_
    refine GL.sem (j := 3) (run_idxArr (P := Try.prog) (k := .i64) (t := 24) (len := 32) (sz := 1) (b := p3) (o := 0) (j := k) (by kernel_rfl) rfl (by omega)) [2, 3, 4, 9, 12, 14] [(2, pt p3 0), (3, pt p7 0), (4, pt p11 0), (9, .int .i64 (k : Int)), (12, .slice A_ k c_), (14, pt p3 (0 + k * 1))] (by kernel_rfl) (by kernel_rfl) rfl ?_
    refine GL.sem (j := 4) (H28.ld (o := (0 + k * 1)) (ty := 5) (v := .int .u8 (((X.getD k 0)).toNat : Int)) 0 rfl (by kernel_rfl) (by rw [show (0 + k * 1) = k by omega]; exact by8_at (getD8 (by rw [hX]; omega)))) [2, 3, 4, 9, 12, 15] [(2, pt p3 0), (3, pt p7 0), (4, pt p11 0), (9, .int .i64 (k : Int)), (12, .slice A_ k c_), (15, .int .u8 (((X.getD k 0)).toNat : Int))] (by kernel_rfl) (by kernel_rfl) rfl ?_
    obtain ⟨p75, w76, r77, H78⟩ := H28.madeRow (P := Try.prog) (Instr.buildSlice 49 1 #[(0, .int .u8 (((X.getD k 0)).toNat : Int))]) (fun b_ => .slice (some ⟨b_, 0, none⟩) 1 1) [.int .u8 (((X.getD k 0)).toNat : Int)] 5 1 1 1 (by kernel_rfl) (by decide) (by decide) rfl
    have H78 : Hp w [] [.blk p3 (by8 X) 24, .blk p7 (by8 Y) 24, .blk p11 (by8 (List.replicate 32 0)) 24, .row A_ k c_ 5 1 (by8 (List.take k X)), .row (some ⟨p75, 0, none⟩) 1 1 5 1 (by8 ([((X.getD k 0))] : List UInt8))] w76 := H78
    refine GL.sem (j := 5) (r77) [2, 3, 4, 9, 12, 16] [(2, pt p3 0), (3, pt p7 0), (4, pt p11 0), (9, .int .i64 (k : Int)), (12, .slice A_ k c_), (16, .slice (some ⟨p75, 0, none⟩) 1 1)] (by kernel_rfl) (by kernel_rfl) rfl ?_
    obtain ⟨A79, c80, w81, r82, H83⟩ := H78.append (P := Try.prog) (e := 5) (sz := 1) (by_ := 1) (n := k) (c := c_) (m := 1) (d := 1) (t := 49) (ty := 49) (xs := by8 (List.take k X)) (news := by8 ([((X.getD k 0))] : List UInt8)) 3 rfl (by kernel_rfl) (H78.rdRow 4 rfl) (by first | (simp [by8_length]; done) | (rw [by8_length]; omega) | (rw [by8_length, putB_length])) (by8_one _) (by omega) (by simp only [maxLen]; omega)
    rw [← by8_append] at H83
    have H83 : Hp w [] [.blk p3 (by8 X) 24, .blk p7 (by8 Y) 24, .blk p11 (by8 (List.replicate 32 0)) 24, .row A79 (k + 1) c80 5 1 (by8 ((List.take k X) ++ ([((X.getD k 0))] : List UInt8))), .row (some ⟨p75, 0, none⟩) 1 1 5 1 (by8 ([((X.getD k 0))] : List UInt8))] w81 := H83
    refine GL.sem (j := 6) (r82) [2, 3, 4, 9, 17] [(2, pt p3 0), (3, pt p7 0), (4, pt p11 0), (9, .int .i64 (k : Int)), (17, .slice A79 (k + 1) c80)] (by kernel_rfl) (by kernel_rfl) rfl ?_
    refine GL.run (j := 7) 1 [2, 3, 4, 5, 9] [(2, pt p3 0), (3, pt p7 0), (4, pt p11 0), (5, .slice A79 (k + 1) c80), (9, .int .i64 (k : Int))] (by kernel_rfl) rfl ?_
    refine GL.k rfl hK72 (fun _ _ h => h) ?_
    refine G.region ?_
    refine GL.run (j := 2) 2 [2, 3, 4, 5, 9] [(2, pt p3 0), (3, pt p7 0), (4, pt p11 0), (5, .slice A79 (k + 1) c80), (9, .int .i64 (IntKind.i64.wrap ((k : Int) + 1)))] (by kernel_rfl) rfl ?_
    have e84 : (IntKind.i64.wrap ((k : Int) + 1)) = ((k + 1 : Nat) : Int) := by rw [in_i64 (by omega)]; omega
    refine GL.eq (M' := [(2, pt p3 0), (3, pt p7 0), (4, pt p11 0), (5, .slice A79 (k + 1) c80), (9, .int .i64 ((k + 1 : Nat) : Int))]) (by rw [e84]) ?_
    clear e84
    have H85 : Hp w [] [.blk p3 (by8 X) 24, .blk p7 (by8 Y) 24, .blk p11 (by8 (List.replicate 32 0)) 24, .row A79 (k + 1) c80 5 1 (by8 ((List.take k X) ++ ([((X.getD k 0))] : List UInt8)))] w81 := H83.sub (List.Sublist.cons_cons _ (List.Sublist.cons_cons _ (List.Sublist.cons_cons _ (List.Sublist.cons_cons _ (List.Sublist.cons _ (List.Sublist.slnil))))))
    have H86 : Hp w [] [.blk p3 (by8 X) 24, .blk p7 (by8 Y) 24, .blk p11 (by8 (List.replicate 32 0)) 24, .row A79 (k + 1) c80 5 1 (by8 (List.take (k + 1) X))] w81 := by rw [take_snoc8 (by omega)]; exact H85
    refine GL.fit (ts := [2, 3, 4, 5, 9]) (M' := [(2, pt p3 0), (3, pt p7 0), (4, pt p11 0), (5, .slice A79 (k + 1) c80), (9, .int .i64 ((k + 1 : Nat) : Int))]) (by kernel_rfl) ?_
    refine GL.eq (M' := [(2, pt p3 0), (3, pt p7 0), (4, pt p11 0), (5, .slice A79 (k + 1) c80), (9, .int .i64 (((k + 1) : Nat) : Int))]) (by rfl) ?_
    exact GL.again ⟨(k + 1), A79, c80⟩ [2, 3, 4, 5, 9] rfl (by kernel_rfl) (by show 32 - (k + 1) < 32 - k; omega) ⟨by omega, H86⟩
theorem RefUp_calls (A : Option Addr) (c : Nat) (l : List (List UInt8)) (w : World) (hx : RdS w A (by8 (flat8 l))) (hok : ok32 l) (hc : l.length ≤ c) (hl : l.length ≤ 65536) : Calls Try.prog 25 #[.slice A l.length c] w fun e w' => ∃ A' c', e = .returned (.slice A' (upH l).length c') ∧ Hp w [] [.row A' (upH l).length c' 24 32 (by8 (flat8 (upH l)))] w' := by
  refine calls_G (args := [.slice A l.length c]) Try.func25 rfl Try.ntmps25 rfl ?_
  intro Q0 hRet hNor hPan
  have H := Hp.start w
  have H : Hp w [] [] w := H
  refine G.seqK fun K1 hK2 => ?_
  refine G.region ?_
  refine GL.run (j := 1) 1 [0] [(0, .slice A l.length c)] (by kernel_rfl) rfl ?_
  refine GL.k rfl hK2 (fun _ _ h => h) ?_
  refine G.seqK fun K3 hK4 => ?_
  refine G.region ?_
  obtain ⟨p5, w6, r7, H8⟩ := H.madeRow (P := Try.prog) (Instr.buildSlice 33 0 #[]) (fun b_ => .slice (some ⟨b_, 0, none⟩) 0 0) [] 24 0 0 32 (by kernel_rfl) (by decide) (by decide) rfl
  have H8 : Hp w [] [.row (some ⟨p5, 0, none⟩) 0 0 24 32 (by8 (flat8 []))] w6 := H8
  refine GL.sem (j := 1) (r7) [0, 5] [(0, .slice A l.length c), (5, .slice (some ⟨p5, 0, none⟩) 0 0)] (by kernel_rfl) (by kernel_rfl) rfl ?_
  refine GL.run (j := 2) 1 [0, 3] [(0, .slice A l.length c), (3, .slice (some ⟨p5, 0, none⟩) 0 0)] (by kernel_rfl) rfl ?_
  refine GL.k rfl hK4 (fun _ _ h => h) ?_
  refine G.seqK fun K9 hK10 => ?_
  refine G.seqK fun K11 hK12 => ?_
  refine G.region ?_
  refine GL.run (j := 1) 1 [0, 3, 4] [(0, .slice A l.length c), (3, .slice (some ⟨p5, 0, none⟩) 0 0), (4, .int .i64 0)] (by kernel_rfl) rfl ?_
  refine GL.k rfl hK12 (fun _ _ h => h) ?_
  refine G.block ?_
  have H13 : Hp w [] [.row (some ⟨p5, 0, none⟩) 0 0 24 32 (by8 (flat8 ((upH l).take 0)))] w6 := H8
  refine G.fit [0, 3, 4] (M' := [(0, .slice A l.length c), (3, .slice (some ⟨p5, 0, none⟩) 0 0), (4, .int .i64 0)]) (by kernel_rfl) ?_
  refine G.eq (M' := [(0, .slice A l.length c), (3, .slice (some ⟨p5, 0, none⟩) 0 0), (4, .int .i64 (((2 * 0) : Nat) : Int))]) (by rfl) ?_
  refine G.loop (X := Nat × Option Addr × Nat) (fun ⟨k, A_, c_⟩ => [(0, .slice A l.length c), (3, .slice A_ k c_), (4, .int .i64 (((2 * k) : Nat) : Int))]) (fun ⟨k, A_, c_⟩ w_ => (k ≤ (l.length + 1) / 2) ∧ Hp w [] [.row A_ k c_ 24 32 (by8 (flat8 ((upH l).take k)))] w_) (fun ⟨k, A_, c_⟩ => (l.length + 1) / 2 - k) ⟨0, (some ⟨p5, 0, none⟩), 0⟩ [0, 3, 4] (by kernel_rfl) ⟨by omega, H13⟩ ?_
  rintro ⟨k, A_, c_⟩ w14 ⟨hi15, H16⟩
  refine G.eq (M' := [(0, .slice A l.length c), (3, .slice A_ k c_), (4, .int .i64 (((2 * k) : Nat) : Int))]) rfl ?_
  have H16 : Hp w [] [.row A_ k c_ 24 32 (by8 (flat8 ((upH l).take k)))] w14 := H16
  have hkl := hi15
  refine G.seqK fun K17 hK18 => ?_
  refine G.seqK fun K19 hK20 => ?_
  refine G.region ?_
  refine GL.run (j := 4) 4 [0, 3, 4, 9] [(0, .slice A l.length c), (3, .slice A_ k c_), (4, .int .i64 (((2 * k) : Nat) : Int)), (9, .bool (decide ((((2 * k) : Nat) : Int) < (l.length : Int))))] (by kernel_rfl) rfl ?_
  refine GL.k rfl hK20 (fun _ _ h => h) ?_
  cases hb21 : (decide ((((2 * k) : Nat) : Int) < (l.length : Int)))
  · skip
    have hb21f := of_decide_eq_false hb21
    refine G.no rfl ?_
    refine G.exitK hK10 (fun _ _ h => h) ?_
    refine G.seqK fun K22 hK23 => ?_
    refine G.region ?_
    refine GL.run (j := 2) 2 [2] [(2, .slice A_ k c_)] (by kernel_rfl) rfl ?_
    refine GL.k rfl hK23 (fun _ _ h => h) ?_
    refine G.ret ?_
    intro F_ hF_ hM_
    refine hRet _ _ (bodyPost_1 rfl (RV.tmp rfl) ?_ F_ hF_ hM_)
    have HF := H16
    rw [upH_all (by omega), show k = (upH l).length by rw [upH_length]; omega] at HF
    rw [show k = (upH l).length by rw [upH_length]; omega]
    exact ⟨_, _, rfl, HF⟩
  · skip
    have hb21f := of_decide_eq_true hb21
    refine G.yes rfl ?_
    refine G.skipK hK18 (fun _ _ h => h) ?_
    refine G.seqK fun K24 hK25 => ?_
    refine G.block ?_
    refine G.seqK fun K26 hK27 => ?_
    refine G.region ?_
    refine GL.run (j := 5) 5 [0, 3, 4, 16] [(0, .slice A l.length c), (3, .slice A_ k c_), (4, .int .i64 (((2 * k) : Nat) : Int)), (16, .bool (decide ((IntKind.i64.wrap ((((2 * k) : Nat) : Int) + 1)) < (l.length : Int))))] (by kernel_rfl) rfl ?_
    have e28 : (IntKind.i64.wrap ((((2 * k) : Nat) : Int) + 1)) = (((2 * k) + 1 : Nat) : Int) := by rw [in_i64 (by omega)]; omega
    refine GL.eq (M' := [(0, .slice A l.length c), (3, .slice A_ k c_), (4, .int .i64 (((2 * k) : Nat) : Int)), (16, .bool (decide ((((2 * k) + 1 : Nat) : Int) < (l.length : Int))))]) (by rw [e28]) ?_
    clear e28
    refine GL.k rfl hK27 (fun _ _ h => h) ?_
    cases hb29 : (decide ((((2 * k) + 1 : Nat) : Int) < (l.length : Int)))
    · skip
      have hb29f := of_decide_eq_false hb29
      refine G.no rfl ?_
      refine G.heldP (Hp w [] []) (by kernel_rfl) (by kernel_rfl) (fun c_ a_ d_ v_ w_ h_ => hPan c_ a_ d_ v_ w_ h_) ?_
      have H30 := H16.drew
      generalize ({ w14 with drawn := w14.drawn + 1 } : World) = w31 at H30 ⊢
      have hS32 : Hp w [] [] w31 := H30.sub (List.Sublist.cons _ (List.Sublist.slnil))
      refine GP.run [0, 1, 2] [0, 3, 4, 30, 31, 32] [(0, .slice A l.length c), (3, .slice A_ k c_), (4, .int .i64 (((2 * k) : Nat) : Int)), (30, .slice A_ k c_), (31, .slice A l.length c), (32, .int .i64 (((2 * k) : Nat) : Int))] [0, 1, 2] (by kernel_rfl) rfl hS32 ?_
      refine GP.sem 3 (fun w_ H_ => run_idxRdN (P := Try.prog) (k := .i64) (t := 33) (sz := 32) (A := A) (len := l.length) (cap := c) (j := (2 * k)) (by kernel_rfl) rfl (hx.hp H_) (by rw [by8_length]; exact flat8_length hok) (by decide) (by omega)) [0, 3, 4, 30, 33] [(0, .slice A l.length c), (3, .slice A_ k c_), (4, .int .i64 (((2 * k) : Nat) : Int)), (30, .slice A_ k c_), (33, .pointer (Option.map (fun x => Addr.add x ((2 * k) * 32)) A))] (by kernel_rfl) (by kernel_rfl) (by kernel_rfl) hS32 ?_
      refine GP.sem 4 (fun w_ H_ => run_ldRdA (P := Try.prog) (ty := 24) (m := 32) (o := ((2 * k) * 32)) (A := A) (sub := by8 (l.getD (2 * k) [])) (by kernel_rfl) (hx.hp H_) (flat8_sub hok (by omega)) (by rw [by8_length, ok32_at hok (by omega)]) (by decide)) [0, 3, 4, 30, 34] [(0, .slice A l.length c), (3, .slice A_ k c_), (4, .int .i64 (((2 * k) : Nat) : Int)), (30, .slice A_ k c_), (34, .agg (by8 (l.getD (2 * k) [])).toArray)] (by kernel_rfl) (by kernel_rfl) (by kernel_rfl) hS32 ?_
      refine GP.run [5, 6] [0, 3, 4, 30, 34, 35, 36] [(0, .slice A l.length c), (3, .slice A_ k c_), (4, .int .i64 (((2 * k) : Nat) : Int)), (30, .slice A_ k c_), (34, .agg (by8 (l.getD (2 * k) [])).toArray), (35, .slice A l.length c), (36, .int .i64 (((2 * k) : Nat) : Int))] [0, 1, 2, 3, 4, 5, 6] (by kernel_rfl) rfl hS32 ?_
      refine GP.sem 7 (fun w_ H_ => run_idxRdN (P := Try.prog) (k := .i64) (t := 33) (sz := 32) (A := A) (len := l.length) (cap := c) (j := (2 * k)) (by kernel_rfl) rfl (hx.hp H_) (by rw [by8_length]; exact flat8_length hok) (by decide) (by omega)) [0, 3, 4, 30, 34, 37] [(0, .slice A l.length c), (3, .slice A_ k c_), (4, .int .i64 (((2 * k) : Nat) : Int)), (30, .slice A_ k c_), (34, .agg (by8 (l.getD (2 * k) [])).toArray), (37, .pointer (Option.map (fun x => Addr.add x ((2 * k) * 32)) A))] (by kernel_rfl) (by kernel_rfl) (by kernel_rfl) hS32 ?_
      refine GP.sem 8 (fun w_ H_ => run_ldRdA (P := Try.prog) (ty := 24) (m := 32) (o := ((2 * k) * 32)) (A := A) (sub := by8 (l.getD (2 * k) [])) (by kernel_rfl) (hx.hp H_) (flat8_sub hok (by omega)) (by rw [by8_length, ok32_at hok (by omega)]) (by decide)) [0, 3, 4, 30, 34, 38] [(0, .slice A l.length c), (3, .slice A_ k c_), (4, .int .i64 (((2 * k) : Nat) : Int)), (30, .slice A_ k c_), (34, .agg (by8 (l.getD (2 * k) [])).toArray), (38, .agg (by8 (l.getD (2 * k) [])).toArray)] (by kernel_rfl) (by kernel_rfl) (by kernel_rfl) hS32 ?_
      refine GP.call 9 (RefBoth_calls (l.getD (2 * k) []) (l.getD (2 * k) []) (by rw [ok32_at hok (by omega)]) (by rw [ok32_at hok (by omega)]) w31) (by kernel_rfl) (by kernel_rfl) (fun e_ w33 hR => ?_)
      obtain ⟨rfl, H35⟩ := hR
      have H34 : Hp w [] [.row A_ k c_ 24 32 (by8 (flat8 ((upH l).take k)))] w33 := H30.callNil H35
      have hS36 : Hp w [] [] w33 := H34.sub (List.Sublist.cons _ (List.Sublist.slnil))
      refine ⟨_, rfl, hS36, [0, 3, 4, 30, 39], [(0, .slice A l.length c), (3, .slice A_ k c_), (4, .int .i64 (((2 * k) : Nat) : Int)), (30, .slice A_ k c_), (39, .agg (by8 (bothH (l.getD (2 * k) []) (l.getD (2 * k) []))).toArray)], by kernel_rfl, ?_⟩
      obtain ⟨p37, w38, r39, H40⟩ := H34.madeRow (P := Try.prog) (Instr.buildSlice 33 1 #[(0, .agg (by8 (bothH (l.getD (2 * k) []) (l.getD (2 * k) []))).toArray)]) (fun b_ => .slice (some ⟨b_, 0, none⟩) 1 1) (by8 (bothH (l.getD (2 * k) []) (l.getD (2 * k) []))) 24 1 1 32 (built1_33 (bothH (l.getD (2 * k) []) (l.getD (2 * k) [])) (by rw [bothH_length])) (by decide) (by decide) (by rw [by8_length, bothH_length])
      rw [List.take_of_length_le (show (by8 (bothH (l.getD (2 * k) []) (l.getD (2 * k) []))).length ≤ 1 * 32 from Nat.le_of_eq (by rw [by8_length, bothH_length]))] at H40
      have H40 : Hp w [] [.row A_ k c_ 24 32 (by8 (flat8 ((upH l).take k))), .row (some ⟨p37, 0, none⟩) 1 1 24 32 (by8 (bothH (l.getD (2 * k) []) (l.getD (2 * k) [])))] w38 := H40
      have hS41 : Hp w [] [] w38 := H40.sub (List.Sublist.cons _ (List.Sublist.cons _ (List.Sublist.slnil)))
      refine GP.made 10 r39 [0, 3, 4, 30, 40] [(0, .slice A l.length c), (3, .slice A_ k c_), (4, .int .i64 (((2 * k) : Nat) : Int)), (30, .slice A_ k c_), (40, .slice (some ⟨p37, 0, none⟩) 1 1)] (by kernel_rfl) (by kernel_rfl) (by kernel_rfl) hS41 ?_
      obtain ⟨A42, c43, w44, r45, H46⟩ := H40.append (P := Try.prog) (e := 24) (sz := 32) (by_ := 32) (n := k) (c := c_) (m := 1) (d := 1) (t := 33) (ty := 33) (xs := by8 (flat8 ((upH l).take k))) (news := by8 (bothH (l.getD (2 * k) []) (l.getD (2 * k) []))) 0 rfl (by kernel_rfl) (H40.rdRowN 1 rfl) (by rw [by8_length, bothH_length]) (by8_one _) (by omega) (by simp only [maxLen]; omega)
      rw [← by8_append] at H46
      have H46 : Hp w [] [.row A42 (k + 1) c43 24 32 (by8 ((flat8 ((upH l).take k)) ++ (bothH (l.getD (2 * k) []) (l.getD (2 * k) [])))), .row (some ⟨p37, 0, none⟩) 1 1 24 32 (by8 (bothH (l.getD (2 * k) []) (l.getD (2 * k) [])))] w44 := H46
      have hS47 : Hp w [] [] w44 := H46.sub (List.Sublist.cons _ (List.Sublist.cons _ (List.Sublist.slnil)))
      refine GP.made 11 r45 [0, 3, 4, 41] [(0, .slice A l.length c), (3, .slice A_ k c_), (4, .int .i64 (((2 * k) : Nat) : Int)), (41, .slice A42 (k + 1) c43)] (by kernel_rfl) (by kernel_rfl) (by kernel_rfl) hS47 ?_
      refine GP.run [12] [0, 3, 4] [(0, .slice A l.length c), (3, .slice A42 (k + 1) c43), (4, .int .i64 (((2 * k) : Nat) : Int))] [0, 1, 2, 3, 4, 5, 6, 7, 8, 9, 10, 11, 12] (by kernel_rfl) rfl hS47 ?_
      refine GP.k (by kernel_rfl) hK25 (fun _ _ h => h) ?_
      refine G.region ?_
      refine GL.run (j := 3) 3 [0, 3, 4] [(0, .slice A l.length c), (3, .slice A42 (k + 1) c43), (4, .int .i64 (IntKind.i64.wrap ((((2 * k) : Nat) : Int) + 2)))] (by kernel_rfl) rfl ?_
      have e48 : (IntKind.i64.wrap ((((2 * k) : Nat) : Int) + 2)) = (((2 * k) + 2 : Nat) : Int) := by rw [in_i64 (by omega)]; omega
      refine GL.eq (M' := [(0, .slice A l.length c), (3, .slice A42 (k + 1) c43), (4, .int .i64 (((2 * k) + 2 : Nat) : Int))]) (by rw [e48]) ?_
      clear e48
      have H49 : Hp w [] [.row A42 (k + 1) c43 24 32 (by8 ((flat8 ((upH l).take k)) ++ (bothH (l.getD (2 * k) []) (l.getD (2 * k) []))))] w44 := H46.sub (List.Sublist.cons_cons _ (List.Sublist.cons _ (List.Sublist.slnil)))
      have H50 : Hp w [] [.row A42 (k + 1) c43 24 32 (by8 (flat8 ((upH l).take (k + 1))))] w44 := by rw [upH_next (by omega), if_neg (by omega), flat8_snoc]; exact H49
      refine GL.fit (ts := [0, 3, 4]) (M' := [(0, .slice A l.length c), (3, .slice A42 (k + 1) c43), (4, .int .i64 (((2 * k) + 2 : Nat) : Int))]) (by kernel_rfl) ?_
      refine GL.eq (M' := [(0, .slice A l.length c), (3, .slice A42 (k + 1) c43), (4, .int .i64 (((2 * (k + 1)) : Nat) : Int))]) (by rw [show 2 * k + 2 = 2 * (k + 1) by omega]) ?_
      exact GL.again ⟨(k + 1), A42, c43⟩ [0, 3, 4] rfl (by kernel_rfl) (by show (l.length + 1) / 2 - (k + 1) < (l.length + 1) / 2 - k; omega) ⟨by omega, H50⟩
    · skip
      have hb29f := of_decide_eq_true hb29
      refine G.yes rfl ?_
      refine G.heldP (Hp w [] []) (by kernel_rfl) (by kernel_rfl) (fun c_ a_ d_ v_ w_ h_ => hPan c_ a_ d_ v_ w_ h_) ?_
      have H51 := H16.drew
      generalize ({ w14 with drawn := w14.drawn + 1 } : World) = w52 at H51 ⊢
      have hS53 : Hp w [] [] w52 := H51.sub (List.Sublist.cons _ (List.Sublist.slnil))
      refine GP.run [0, 1, 2] [0, 3, 4, 17, 18, 19] [(0, .slice A l.length c), (3, .slice A_ k c_), (4, .int .i64 (((2 * k) : Nat) : Int)), (17, .slice A_ k c_), (18, .slice A l.length c), (19, .int .i64 (((2 * k) : Nat) : Int))] [0, 1, 2] (by kernel_rfl) rfl hS53 ?_
      refine GP.sem 3 (fun w_ H_ => run_idxRdN (P := Try.prog) (k := .i64) (t := 33) (sz := 32) (A := A) (len := l.length) (cap := c) (j := (2 * k)) (by kernel_rfl) rfl (hx.hp H_) (by rw [by8_length]; exact flat8_length hok) (by decide) (by omega)) [0, 3, 4, 17, 20] [(0, .slice A l.length c), (3, .slice A_ k c_), (4, .int .i64 (((2 * k) : Nat) : Int)), (17, .slice A_ k c_), (20, .pointer (Option.map (fun x => Addr.add x ((2 * k) * 32)) A))] (by kernel_rfl) (by kernel_rfl) (by kernel_rfl) hS53 ?_
      refine GP.sem 4 (fun w_ H_ => run_ldRdA (P := Try.prog) (ty := 24) (m := 32) (o := ((2 * k) * 32)) (A := A) (sub := by8 (l.getD (2 * k) [])) (by kernel_rfl) (hx.hp H_) (flat8_sub hok (by omega)) (by rw [by8_length, ok32_at hok (by omega)]) (by decide)) [0, 3, 4, 17, 21] [(0, .slice A l.length c), (3, .slice A_ k c_), (4, .int .i64 (((2 * k) : Nat) : Int)), (17, .slice A_ k c_), (21, .agg (by8 (l.getD (2 * k) [])).toArray)] (by kernel_rfl) (by kernel_rfl) (by kernel_rfl) hS53 ?_
      refine GP.run [5, 6, 7] [0, 3, 4, 17, 21, 22, 24] [(0, .slice A l.length c), (3, .slice A_ k c_), (4, .int .i64 (((2 * k) : Nat) : Int)), (17, .slice A_ k c_), (21, .agg (by8 (l.getD (2 * k) [])).toArray), (22, .slice A l.length c), (24, .int .i64 (IntKind.i64.wrap ((((2 * k) : Nat) : Int) + 1)))] [0, 1, 2, 3, 4, 5, 6, 7] (by kernel_rfl) rfl hS53 ?_
      have e54 : (IntKind.i64.wrap ((((2 * k) : Nat) : Int) + 1)) = (((2 * k) + 1 : Nat) : Int) := by rw [in_i64 (by omega)]; omega
      refine GP.eq (M' := [(0, .slice A l.length c), (3, .slice A_ k c_), (4, .int .i64 (((2 * k) : Nat) : Int)), (17, .slice A_ k c_), (21, .agg (by8 (l.getD (2 * k) [])).toArray), (22, .slice A l.length c), (24, .int .i64 (((2 * k) + 1 : Nat) : Int))]) (by rw [e54]) ?_
      clear e54
      refine GP.sem 8 (fun w_ H_ => run_idxRdN (P := Try.prog) (k := .i64) (t := 33) (sz := 32) (A := A) (len := l.length) (cap := c) (j := (2 * k) + 1) (by kernel_rfl) rfl (hx.hp H_) (by rw [by8_length]; exact flat8_length hok) (by decide) (by omega)) [0, 3, 4, 17, 21, 25] [(0, .slice A l.length c), (3, .slice A_ k c_), (4, .int .i64 (((2 * k) : Nat) : Int)), (17, .slice A_ k c_), (21, .agg (by8 (l.getD (2 * k) [])).toArray), (25, .pointer (Option.map (fun x => Addr.add x (((2 * k) + 1) * 32)) A))] (by kernel_rfl) (by kernel_rfl) (by kernel_rfl) hS53 ?_
      refine GP.sem 9 (fun w_ H_ => run_ldRdA (P := Try.prog) (ty := 24) (m := 32) (o := (((2 * k) + 1) * 32)) (A := A) (sub := by8 (l.getD ((2 * k) + 1) [])) (by kernel_rfl) (hx.hp H_) (flat8_sub hok (by omega)) (by rw [by8_length, ok32_at hok (by omega)]) (by decide)) [0, 3, 4, 17, 21, 26] [(0, .slice A l.length c), (3, .slice A_ k c_), (4, .int .i64 (((2 * k) : Nat) : Int)), (17, .slice A_ k c_), (21, .agg (by8 (l.getD (2 * k) [])).toArray), (26, .agg (by8 (l.getD ((2 * k) + 1) [])).toArray)] (by kernel_rfl) (by kernel_rfl) (by kernel_rfl) hS53 ?_
      refine GP.call 10 (RefBoth_calls (l.getD (2 * k) []) (l.getD ((2 * k) + 1) []) (by rw [ok32_at hok (by omega)]) (by rw [ok32_at hok (by omega)]) w52) (by kernel_rfl) (by kernel_rfl) (fun e_ w55 hR => ?_)
      obtain ⟨rfl, H57⟩ := hR
      have H56 : Hp w [] [.row A_ k c_ 24 32 (by8 (flat8 ((upH l).take k)))] w55 := H51.callNil H57
      have hS58 : Hp w [] [] w55 := H56.sub (List.Sublist.cons _ (List.Sublist.slnil))
      refine ⟨_, rfl, hS58, [0, 3, 4, 17, 27], [(0, .slice A l.length c), (3, .slice A_ k c_), (4, .int .i64 (((2 * k) : Nat) : Int)), (17, .slice A_ k c_), (27, .agg (by8 (bothH (l.getD (2 * k) []) (l.getD ((2 * k) + 1) []))).toArray)], by kernel_rfl, ?_⟩
      obtain ⟨p59, w60, r61, H62⟩ := H56.madeRow (P := Try.prog) (Instr.buildSlice 33 1 #[(0, .agg (by8 (bothH (l.getD (2 * k) []) (l.getD ((2 * k) + 1) []))).toArray)]) (fun b_ => .slice (some ⟨b_, 0, none⟩) 1 1) (by8 (bothH (l.getD (2 * k) []) (l.getD ((2 * k) + 1) []))) 24 1 1 32 (built1_33 (bothH (l.getD (2 * k) []) (l.getD ((2 * k) + 1) [])) (by rw [bothH_length])) (by decide) (by decide) (by rw [by8_length, bothH_length])
      rw [List.take_of_length_le (show (by8 (bothH (l.getD (2 * k) []) (l.getD ((2 * k) + 1) []))).length ≤ 1 * 32 from Nat.le_of_eq (by rw [by8_length, bothH_length]))] at H62
      have H62 : Hp w [] [.row A_ k c_ 24 32 (by8 (flat8 ((upH l).take k))), .row (some ⟨p59, 0, none⟩) 1 1 24 32 (by8 (bothH (l.getD (2 * k) []) (l.getD ((2 * k) + 1) [])))] w60 := H62
      have hS63 : Hp w [] [] w60 := H62.sub (List.Sublist.cons _ (List.Sublist.cons _ (List.Sublist.slnil)))
      refine GP.made 11 r61 [0, 3, 4, 17, 28] [(0, .slice A l.length c), (3, .slice A_ k c_), (4, .int .i64 (((2 * k) : Nat) : Int)), (17, .slice A_ k c_), (28, .slice (some ⟨p59, 0, none⟩) 1 1)] (by kernel_rfl) (by kernel_rfl) (by kernel_rfl) hS63 ?_
      obtain ⟨A64, c65, w66, r67, H68⟩ := H62.append (P := Try.prog) (e := 24) (sz := 32) (by_ := 32) (n := k) (c := c_) (m := 1) (d := 1) (t := 33) (ty := 33) (xs := by8 (flat8 ((upH l).take k))) (news := by8 (bothH (l.getD (2 * k) []) (l.getD ((2 * k) + 1) []))) 0 rfl (by kernel_rfl) (H62.rdRowN 1 rfl) (by rw [by8_length, bothH_length]) (by8_one _) (by omega) (by simp only [maxLen]; omega)
      rw [← by8_append] at H68
      have H68 : Hp w [] [.row A64 (k + 1) c65 24 32 (by8 ((flat8 ((upH l).take k)) ++ (bothH (l.getD (2 * k) []) (l.getD ((2 * k) + 1) [])))), .row (some ⟨p59, 0, none⟩) 1 1 24 32 (by8 (bothH (l.getD (2 * k) []) (l.getD ((2 * k) + 1) [])))] w66 := H68
      have hS69 : Hp w [] [] w66 := H68.sub (List.Sublist.cons _ (List.Sublist.cons _ (List.Sublist.slnil)))
      refine GP.made 12 r67 [0, 3, 4, 29] [(0, .slice A l.length c), (3, .slice A_ k c_), (4, .int .i64 (((2 * k) : Nat) : Int)), (29, .slice A64 (k + 1) c65)] (by kernel_rfl) (by kernel_rfl) (by kernel_rfl) hS69 ?_
      refine GP.run [13] [0, 3, 4] [(0, .slice A l.length c), (3, .slice A64 (k + 1) c65), (4, .int .i64 (((2 * k) : Nat) : Int))] [0, 1, 2, 3, 4, 5, 6, 7, 8, 9, 10, 11, 12, 13] (by kernel_rfl) rfl hS69 ?_
      refine GP.k (by kernel_rfl) hK25 (fun _ _ h => h) ?_
      refine G.region ?_
      refine GL.run (j := 3) 3 [0, 3, 4] [(0, .slice A l.length c), (3, .slice A64 (k + 1) c65), (4, .int .i64 (IntKind.i64.wrap ((((2 * k) : Nat) : Int) + 2)))] (by kernel_rfl) rfl ?_
      have e70 : (IntKind.i64.wrap ((((2 * k) : Nat) : Int) + 2)) = (((2 * k) + 2 : Nat) : Int) := by rw [in_i64 (by omega)]; omega
      refine GL.eq (M' := [(0, .slice A l.length c), (3, .slice A64 (k + 1) c65), (4, .int .i64 (((2 * k) + 2 : Nat) : Int))]) (by rw [e70]) ?_
      clear e70
      have H71 : Hp w [] [.row A64 (k + 1) c65 24 32 (by8 ((flat8 ((upH l).take k)) ++ (bothH (l.getD (2 * k) []) (l.getD ((2 * k) + 1) []))))] w66 := H68.sub (List.Sublist.cons_cons _ (List.Sublist.cons _ (List.Sublist.slnil)))
      have H72 : Hp w [] [.row A64 (k + 1) c65 24 32 (by8 (flat8 ((upH l).take (k + 1))))] w66 := by rw [upH_next (by omega), if_pos (by omega), flat8_snoc]; exact H71
      refine GL.fit (ts := [0, 3, 4]) (M' := [(0, .slice A l.length c), (3, .slice A64 (k + 1) c65), (4, .int .i64 (((2 * k) + 2 : Nat) : Int))]) (by kernel_rfl) ?_
      refine GL.eq (M' := [(0, .slice A l.length c), (3, .slice A64 (k + 1) c65), (4, .int .i64 (((2 * (k + 1)) : Nat) : Int))]) (by rw [show 2 * k + 2 = 2 * (k + 1) by omega]) ?_
      exact GL.again ⟨(k + 1), A64, c65⟩ [0, 3, 4] rfl (by kernel_rfl) (by show (l.length + 1) / 2 - (k + 1) < (l.length + 1) / 2 - k; omega) ⟨by omega, H72⟩
theorem Plain_calls (A : Option Addr) (c : Nat) (l : List (List UInt8)) (w : World) (hx : RdS w A (by8 (flat8 l))) (hok : ok32 l) (hc : l.length ≤ c) (hl : l.length ≤ 65536) : Calls Try.prog 13 #[.slice A l.length c] w fun e w' => ∃ A' c', e = .returned (.slice A' l.length c') ∧ Hp w [] [.row A' l.length c' 24 32 (by8 (flat8 l))] w' := by
  refine calls_G (args := [.slice A l.length c]) Try.func13 rfl Try.ntmps13 rfl ?_
  intro Q0 hRet hNor hPan
  have H := Hp.start w
  have H : Hp w [] [] w := H
  refine G.seqK fun K1 hK2 => ?_
  refine G.region ?_
  refine GL.run (j := 1) 1 [0] [(0, .slice A l.length c)] (by kernel_rfl) rfl ?_
  refine GL.k rfl hK2 (fun _ _ h => h) ?_
  refine G.seqK fun K3 hK4 => ?_
  refine G.region ?_
  refine GL.run (j := 1) 1 [0, 3] [(0, .slice A l.length c), (3, .slice none 0 0)] (by kernel_rfl) rfl ?_
  refine GL.k rfl hK4 (fun _ _ h => h) ?_
  refine G.seqK fun K5 hK6 => ?_
  refine G.seqK fun K7 hK8 => ?_
  refine G.region ?_
  refine GL.run (j := 3) 3 [3, 6, 7, 8] [(3, .slice none 0 0), (6, .slice A l.length c), (7, .int .i64 (l.length : Int)), (8, .int .i64 0)] (by kernel_rfl) rfl ?_
  refine GL.k rfl hK8 (fun _ _ h => h) ?_
  refine G.block ?_
  have H9 := H.rowNil 24 32
  have H9 : Hp w [] [.row none 0 0 24 32 (by8 (flat8 (List.take 0 l)))] w := H9
  refine G.fit [3, 6, 7, 8] (M' := [(3, .slice none 0 0), (6, .slice A l.length c), (7, .int .i64 (l.length : Int)), (8, .int .i64 0)]) (by kernel_rfl) ?_
  refine G.loop (X := Nat × Option Addr × Nat) (fun ⟨k, A_, c_⟩ => [(3, .slice A_ k c_), (6, .slice A l.length c), (7, .int .i64 (l.length : Int)), (8, .int .i64 (k : Int))]) (fun ⟨k, A_, c_⟩ w_ => (k ≤ l.length) ∧ Hp w [] [.row A_ k c_ 24 32 (by8 (flat8 (List.take k l)))] w_) (fun ⟨k, A_, c_⟩ => l.length - k) ⟨0, none, 0⟩ [3, 6, 7, 8] (by kernel_rfl) ⟨by omega, H9⟩ ?_
  rintro ⟨k, A_, c_⟩ w10 ⟨hi11, H12⟩
  refine G.eq (M' := [(3, .slice A_ k c_), (6, .slice A l.length c), (7, .int .i64 (l.length : Int)), (8, .int .i64 (k : Int))]) rfl ?_
  have H12 : Hp w [] [.row A_ k c_ 24 32 (by8 (flat8 (List.take k l)))] w10 := H12
  have hkl := hi11
  refine G.seqK fun K13 hK14 => ?_
  refine G.region ?_
  refine GL.run (j := 1) 1 [3, 6, 7, 8, 9] [(3, .slice A_ k c_), (6, .slice A l.length c), (7, .int .i64 (l.length : Int)), (8, .int .i64 (k : Int)), (9, .bool (decide ((k : Int) < (l.length : Int))))] (by kernel_rfl) rfl ?_
  refine GL.k rfl hK14 (fun _ _ h => h) ?_
  refine G.seqK fun K15 hK16 => ?_
  cases hb17 : (decide ((k : Int) < (l.length : Int)))
  · skip
    have hb17f := of_decide_eq_false hb17
    refine G.no rfl ?_
    refine G.exitK hK6 (fun _ _ h => h) ?_
    refine G.seqK fun K18 hK19 => ?_
    refine G.region ?_
    refine GL.run (j := 2) 2 [2] [(2, .slice A_ k c_)] (by kernel_rfl) rfl ?_
    refine GL.k rfl hK19 (fun _ _ h => h) ?_
    refine G.ret ?_
    intro F_ hF_ hM_
    refine hRet _ _ (bodyPost_1 rfl (RV.tmp rfl) ?_ F_ hF_ hM_)
    have HF := H12
    rw [List.take_of_length_le (by omega), show k = l.length by omega] at HF
    rw [show k = l.length by omega]
    exact ⟨_, _, rfl, HF⟩
  · skip
    have hb17f := of_decide_eq_true hb17
    refine G.yes rfl ?_
    refine G.skipK hK16 (fun _ _ h => h) ?_
    refine G.seqK fun K20 hK21 => ?_
    refine G.block ?_
    refine G.seqK fun K22 hK23 => ?_
    refine G.region ?_
    refine GL.sem (j := 1) (run_idxRdN (P := Try.prog) (k := .i64) (t := 22) (sz := 32) (A := A) (len := l.length) (cap := c) (j := k) (by kernel_rfl) rfl (hx.hp H12) (by rw [by8_length]; exact flat8_length hok) (by decide) (by omega)) [3, 6, 7, 8, 10] [(3, .slice A_ k c_), (6, .slice A l.length c), (7, .int .i64 (l.length : Int)), (8, .int .i64 (k : Int)), (10, .pointer (Option.map (fun x => Addr.add x (k * 32)) A))] (by kernel_rfl) (by kernel_rfl) rfl ?_
    refine GL.sem (j := 2) (run_ldRdA (P := Try.prog) (ty := 25) (m := 32) (o := (k * 32)) (A := A) (sub := by8 (l.getD k [])) (by kernel_rfl) (hx.hp H12) (flat8_sub hok (by omega)) (by rw [by8_length, ok32_at hok (by omega)]) (by decide)) [3, 6, 7, 8, 11] [(3, .slice A_ k c_), (6, .slice A l.length c), (7, .int .i64 (l.length : Int)), (8, .int .i64 (k : Int)), (11, .agg (by8 (l.getD k [])).toArray)] (by kernel_rfl) (by kernel_rfl) rfl ?_
    obtain ⟨p24, w25, r26, H27⟩ := H12.alloc (P := Try.prog) 25 (by8 (List.replicate 32 0)) (by kernel_rfl)
    have H27 : Hp w [] [.row A_ k c_ 24 32 (by8 (flat8 (List.take k l))), .blk p24 (by8 (List.replicate 32 0)) 25] w25 := H27
    refine GL.sem (j := 3) (r26) [3, 5, 6, 7, 8, 11] [(3, .slice A_ k c_), (5, pt p24 0), (6, .slice A l.length c), (7, .int .i64 (l.length : Int)), (8, .int .i64 (k : Int)), (11, .agg (by8 (l.getD k [])).toArray)] (by kernel_rfl) (by kernel_rfl) rfl ?_
    obtain ⟨w28, r29, H30⟩ := H27.stA (P := Try.prog) (o := 0) (vs := by8 (l.getD k [])) (ty := 25) (m := 32) 1 rfl (by kernel_rfl) (by rw [by8_length, ok32_at hok (by omega)]) (Nat.le_of_eq (by rw [Nat.zero_add]; exact ((show (by8 (List.replicate 32 0)).length = 32 from by rw [by8_length]; rfl)).symm)) (by8_one _)
    rw [st_whole (by rw [by8_length]; rfl)] at H30
    have H30 : Hp w [] [.row A_ k c_ 24 32 (by8 (flat8 (List.take k l))), .blk p24 (by8 (l.getD k [])) 25] w28 := H30
    refine GL.semU (j := 4) r29 [3, 5, 6, 7, 8] [(3, .slice A_ k c_), (5, pt p24 0), (6, .slice A l.length c), (7, .int .i64 (l.length : Int)), (8, .int .i64 (k : Int))] (by kernel_rfl) rfl rfl rfl ?_
    refine GL.k rfl hK23 (fun _ _ h => h) ?_
    refine G.region ?_
    refine GL.run (j := 1) 1 [5, 6, 7, 8, 12] [(5, pt p24 0), (6, .slice A l.length c), (7, .int .i64 (l.length : Int)), (8, .int .i64 (k : Int)), (12, .slice A_ k c_)] (by kernel_rfl) rfl ?_
    refine GL.sem (j := 2) (H30.ldA (o := 0) (ty := 25) (m := 32) (sub := by8 (l.getD k [])) 1 rfl (by kernel_rfl) (sub_whole (by rw [by8_length, ok32_at hok (by omega)])) (by rw [by8_length, ok32_at hok (by omega)])) [6, 7, 8, 12, 13] [(6, .slice A l.length c), (7, .int .i64 (l.length : Int)), (8, .int .i64 (k : Int)), (12, .slice A_ k c_), (13, .agg (by8 (l.getD k [])).toArray)] (by kernel_rfl) (by kernel_rfl) rfl ?_
    obtain ⟨p31, w32, r33, H34⟩ := H30.madeRow (P := Try.prog) (Instr.buildSlice 33 1 #[(0, .agg (by8 (l.getD k [])).toArray)]) (fun b_ => .slice (some ⟨b_, 0, none⟩) 1 1) (by8 (l.getD k [])) 24 1 1 32 (built1_33 (l.getD k []) (by rw [ok32_at hok (by omega)])) (by decide) (by decide) (by rw [by8_length, ok32_at hok (by omega)])
    rw [List.take_of_length_le (show (by8 (l.getD k [])).length ≤ 1 * 32 from Nat.le_of_eq (by rw [by8_length, ok32_at hok (by omega)]))] at H34
    have H34 : Hp w [] [.row A_ k c_ 24 32 (by8 (flat8 (List.take k l))), .blk p24 (by8 (l.getD k [])) 25, .row (some ⟨p31, 0, none⟩) 1 1 24 32 (by8 (l.getD k []))] w32 := H34
    refine GL.sem (j := 3) (r33) [6, 7, 8, 12, 14] [(6, .slice A l.length c), (7, .int .i64 (l.length : Int)), (8, .int .i64 (k : Int)), (12, .slice A_ k c_), (14, .slice (some ⟨p31, 0, none⟩) 1 1)] (by kernel_rfl) (by kernel_rfl) rfl ?_
    obtain ⟨A35, c36, w37, r38, H39⟩ := H34.append (P := Try.prog) (e := 24) (sz := 32) (by_ := 32) (n := k) (c := c_) (m := 1) (d := 1) (t := 33) (ty := 33) (xs := by8 (flat8 (List.take k l))) (news := by8 (l.getD k [])) 0 rfl (by kernel_rfl) (H34.rdRowN 2 rfl) (by rw [by8_length, ok32_at hok (by omega)]) (by8_one _) (by omega) (by simp only [maxLen]; omega)
    rw [← by8_append] at H39
    have H39 : Hp w [] [.row A35 (k + 1) c36 24 32 (by8 ((flat8 (List.take k l)) ++ (l.getD k []))), .blk p24 (by8 (l.getD k [])) 25, .row (some ⟨p31, 0, none⟩) 1 1 24 32 (by8 (l.getD k []))] w37 := H39
    refine GL.sem (j := 4) (r38) [6, 7, 8, 15] [(6, .slice A l.length c), (7, .int .i64 (l.length : Int)), (8, .int .i64 (k : Int)), (15, .slice A35 (k + 1) c36)] (by kernel_rfl) (by kernel_rfl) rfl ?_
    refine GL.run (j := 5) 1 [3, 6, 7, 8] [(3, .slice A35 (k + 1) c36), (6, .slice A l.length c), (7, .int .i64 (l.length : Int)), (8, .int .i64 (k : Int))] (by kernel_rfl) rfl ?_
    refine GL.k rfl hK21 (fun _ _ h => h) ?_
    refine G.region ?_
    refine GL.run (j := 2) 2 [3, 6, 7, 8] [(3, .slice A35 (k + 1) c36), (6, .slice A l.length c), (7, .int .i64 (l.length : Int)), (8, .int .i64 (IntKind.i64.wrap ((k : Int) + 1)))] (by kernel_rfl) rfl ?_
    have e40 : (IntKind.i64.wrap ((k : Int) + 1)) = ((k + 1 : Nat) : Int) := by rw [in_i64 (by omega)]; omega
    refine GL.eq (M' := [(3, .slice A35 (k + 1) c36), (6, .slice A l.length c), (7, .int .i64 (l.length : Int)), (8, .int .i64 ((k + 1 : Nat) : Int))]) (by rw [e40]) ?_
    clear e40
    have H41 : Hp w [] [.row A35 (k + 1) c36 24 32 (by8 ((flat8 (List.take k l)) ++ (l.getD k [])))] w37 := H39.sub (List.Sublist.cons_cons _ (List.Sublist.cons _ (List.Sublist.cons _ (List.Sublist.slnil))))
    have H42 : Hp w [] [.row A35 (k + 1) c36 24 32 (by8 (flat8 (List.take (k + 1) l)))] w37 := by rw [List.take_add_one, getDH (l := l) (j := k) (by omega), Option.toList_some, flat8_snoc]; exact H41
    refine GL.fit (ts := [3, 6, 7, 8]) (M' := [(3, .slice A35 (k + 1) c36), (6, .slice A l.length c), (7, .int .i64 (l.length : Int)), (8, .int .i64 ((k + 1 : Nat) : Int))]) (by kernel_rfl) ?_
    refine GL.eq (M' := [(3, .slice A35 (k + 1) c36), (6, .slice A l.length c), (7, .int .i64 (l.length : Int)), (8, .int .i64 (((k + 1) : Nat) : Int))]) (by rfl) ?_
    exact GL.again ⟨(k + 1), A35, c36⟩ [3, 6, 7, 8] rfl (by kernel_rfl) (by show l.length - (k + 1) < l.length - k; omega) ⟨by omega, H42⟩
end Go.Proofs.Ytgmggjnoegelgaa
namespace Go.Proofs.Ytgmggjnoegelgaa
open Go.RowKit
theorem i_andO {j : Nat} (h : j < 65537) : Go.bits .and .i64 (j : Int) 1 = ((j % 2 : Nat) : Int) := by
  show IntKind.i64.wrap ((BitVec.ofInt 64 (j : Int) &&& BitVec.ofInt 64 1).toNat : Int) = _
  have e1 : (BitVec.ofInt 64 (j : Int)).toNat = j := by
    rw [BitVec.toNat_ofInt]
    omega
  have e2 : (BitVec.ofInt 64 1).toNat = 1 := by decide
  rw [BitVec.toNat_and, e1, e2, Nat.and_one_is_mod]
  rw [in_i64 (by omega)]
def aloneB (i n : Nat) : Bool := decide (i = n - 1 ∧ n % 2 = 1)
def turnH (X x : List UInt8) (i : Nat) : List UInt8 := if i % 2 = 1 then bothH x X else bothH X x
theorem turnH_length (X x : List UInt8) (i : Nat) : (turnH X x i).length = 32 := by unfold turnH; split <;> exact bothH_length _ _
def climbR : List (List UInt8) → List UInt8 → Nat → Nat → List UInt8 × Bool
  | [], X, _, n => if n = 1 then (X, true) else (List.replicate 32 0, false)
  | x :: r, X, i, n => if n = 1 then (X, false) else if aloneB i n = decide (x = X) then climbR r (turnH X x i) (i / 2) ((n + 1) / 2) else (List.replicate 32 0, false)
theorem climbR_one (l : List (List UInt8)) (X : List UInt8) (i : Nat) : climbR l X i 1 = (X, decide (l.length = 0)) := by
  cases l <;> rfl
theorem climbR_stop {l : List (List UInt8)} {X : List UInt8} {i n k : Nat} (hk : k < l.length) (hn : n ≠ 1) (h : aloneB i n ≠ decide (l.getD k [] = X)) : climbR (l.drop k) X i n = (List.replicate 32 0, false) := by
  rw [List.drop_eq_getElem_cons hk, climbR, if_neg hn, if_neg (by rw [List.getD_eq_getElem?_getD, List.getElem?_eq_getElem hk] at h; exact h)]
theorem climbR_on {l : List (List UInt8)} {X : List UInt8} {i n k : Nat} (hk : k < l.length) (hn : n ≠ 1) (h : aloneB i n = decide (l.getD k [] = X)) : climbR (l.drop k) X i n = climbR (l.drop (k + 1)) (turnH X (l.getD k []) i) (i / 2) ((n + 1) / 2) := by
  have e : l.getD k [] = l[k] := by rw [List.getD_eq_getElem?_getD, List.getElem?_eq_getElem hk]; rfl
  rw [e] at h ⊢
  rw [List.drop_eq_getElem_cons hk, climbR, if_neg hn, if_pos h]
theorem climbR_len : ∀ (l : List (List UInt8)) (X : List UInt8) (i n : Nat), 0 < n → (climbR l X i n).2 = true → l.length = cntH n
  | [], X, i, n, h0, h => by
    unfold climbR at h
    split at h
    · rw [cntH_one (by omega)]; rfl
    · cases h
  | x :: r, X, i, n, h0, h => by
    unfold climbR at h
    split at h
    · cases h
    · split at h
      · have := climbR_len r _ _ _ (by omega) h
        rw [List.length_cons, this, ← cntH_step (by omega)]
      · cases h
theorem climbR_32 : ∀ (l : List (List UInt8)) (X : List UInt8) (i n : Nat), X.length = 32 → (climbR l X i n).1.length = 32
  | [], X, i, n, h => by unfold climbR; split <;> simp [h]
  | x :: r, X, i, n, h => by
    unfold climbR
    split
    · exact h
    · split
      · exact climbR_32 r _ _ _ (turnH_length _ _ _)
      · rfl
def climbE (l : List (List UInt8)) (g : List UInt8) (i n : Int) : Nat := if leafB n = true ∧ 0 ≤ i ∧ i < n then (if (climbR l g i.toNat n.toNat).2 = true then 0 else 14) else 1
def climbV (l : List (List UInt8)) (g : List UInt8) (i n : Int) : List UInt8 := if climbE l g i n = 0 then (climbR l g i.toNat n.toNat).1 else List.replicate 32 0
theorem climbV_length {l : List (List UInt8)} {g : List UInt8} {i n : Int} (h : g.length = 32) : (climbV l g i n).length = 32 := by unfold climbV; split <;> simp [climbR_32 l g _ _ h]
theorem Climb_calls (g : List UInt8) (hg : g.length = 32) (z m : Int) (A : Option Addr) (c : Nat) (l : List (List UInt8)) (w : World) (hx : RdS w A (by8 (flat8 l))) (hok : ok32 l) (hc : l.length ≤ c) : Calls Try.prog 18 #[.agg (by8 g).toArray, .int .i64 z, .int .i64 m, .slice A l.length c] w fun e w' => e = .returned (.tuple #[.agg (by8 (climbV l g z m)).toArray, .int .i64 ((climbE l g z m : Nat) : Int)]) ∧ Hp w [] [] w' := by
  refine calls_G (args := [.agg (by8 g).toArray, .int .i64 z, .int .i64 m, .slice A l.length c]) Try.func18 rfl Try.ntmps18 rfl ?_
  intro Q0 hRet hNor hPan
  have H := Hp.start w
  have H : Hp w [] [] w := H
  refine G.seqK fun K1 hK2 => ?_
  refine G.region ?_
  obtain ⟨p3, w4, r5, H6⟩ := H.box (P := Try.prog) 25 (by8 g) (.agg (by8 g).toArray) rfl
  have H6 : Hp w [] [.blk p3 (by8 g) 25] w4 := H6
  refine GL.sem (j := 1) (r5) [1, 2, 3, 4] [(1, .int .i64 z), (2, .int .i64 m), (3, .slice A l.length c), (4, pt p3 0)] (by kernel_rfl) (by kernel_rfl) rfl ?_
  obtain ⟨p7, w8, r9, H10⟩ := H6.alloc (P := Try.prog) 25 (by8 (List.replicate 32 0)) (by kernel_rfl)
  have H10 : Hp w [] [.blk p3 (by8 g) 25, .blk p7 (by8 (List.replicate 32 0)) 25] w8 := H10
  refine GL.sem (j := 2) (r9) [1, 2, 3, 4, 8] [(1, .int .i64 z), (2, .int .i64 m), (3, .slice A l.length c), (4, pt p3 0), (8, pt p7 0)] (by kernel_rfl) (by kernel_rfl) rfl ?_
  refine GL.run (j := 3) 1 [1, 2, 3, 4, 8] [(1, .int .i64 z), (2, .int .i64 m), (3, .slice A l.length c), (4, pt p3 0), (8, pt p7 0)] (by kernel_rfl) rfl ?_
  refine GL.k rfl hK2 (fun _ _ h => h) ?_
  refine G.scope ?_
  refine G.seqK fun K11 hK12 => ?_
  refine G.seqK fun K13 hK14 => ?_
  refine G.region ?_
  refine GL.run (j := 1) 1 [1, 2, 3, 4, 8, 13] [(1, .int .i64 z), (2, .int .i64 m), (3, .slice A l.length c), (4, pt p3 0), (8, pt p7 0), (13, .int .i64 m)] (by kernel_rfl) rfl ?_
  refine GL.call (j := 2) (Leaves_calls m w8) (by kernel_rfl) rfl (fun e_ w15 hR => ?_)
  obtain ⟨rfl, H17⟩ := hR
  have H16 : Hp w [] [.blk p3 (by8 g) 25, .blk p7 (by8 (List.replicate 32 0)) 25] w15 := H10.callNil H17
  refine ⟨_, rfl, [1, 2, 3, 4, 8, 14], [(1, .int .i64 z), (2, .int .i64 m), (3, .slice A l.length c), (4, pt p3 0), (8, pt p7 0), (14, .bool (leafB m))], by kernel_rfl, ?_⟩
  refine GL.run (j := 4) 2 [1, 2, 3, 4, 8, 16] [(1, .int .i64 z), (2, .int .i64 m), (3, .slice A l.length c), (4, pt p3 0), (8, pt p7 0), (16, .bool (!(leafB m)))] (by kernel_rfl) rfl ?_
  cases hb18 : (leafB m)
  · skip
    have hbad : ¬ (leafB m = true ∧ 0 ≤ z ∧ z < m) := fun h => by rw [hb18] at h; cases h.1
    refine GL.run (j := 12) 8 [1, 2, 3, 4, 8, 24] [(1, .int .i64 z), (2, .int .i64 m), (3, .slice A l.length c), (4, pt p3 0), (8, pt p7 0), (24, .bool true)] (by kernel_rfl) rfl ?_
    refine GL.k rfl hK14 (fun _ _ h => h) ?_
    refine G.yes rfl ?_
    refine G.seqK fun K19 hK20 => ?_
    refine G.region ?_
    refine GL.run (j := 1) 1 [8, 25] [(8, pt p7 0), (25, .agg (by8 (List.replicate 32 0)).toArray)] (by kernel_rfl) rfl ?_
    obtain ⟨w21, r22, H23⟩ := H16.stA (P := Try.prog) (o := 0) (vs := by8 (List.replicate 32 0)) (ty := 25) (m := 32) 1 rfl (by kernel_rfl) (by rw [by8_length, List.length_replicate]) (Nat.le_of_eq (by rw [Nat.zero_add]; exact ((show (by8 (List.replicate 32 0)).length = 32 from by rw [by8_length]; rfl)).symm)) (by8_one _)
    rw [st_whole (by rw [by8_length]; rfl)] at H23
    have H23 : Hp w [] [.blk p3 (by8 g) 25, .blk p7 (by8 (List.replicate 32 0)) 25] w21 := H23
    refine GL.semU (j := 2) r22 [8] [(8, pt p7 0)] (by kernel_rfl) rfl rfl rfl ?_
    refine GL.run (j := 3) 1 [8, 9] [(8, pt p7 0), (9, .int .i64 1)] (by kernel_rfl) rfl ?_
    refine GL.k rfl hK20 (fun _ _ h => h) ?_
    refine G.ret ?_
    intro F_ hF_ hM_
    refine hRet _ _ (bodyPost_2 rfl (RV.cell rfl (H23.ldA (o := 0) (ty := 25) (m := 32) (sub := by8 (List.replicate 32 0)) 1 rfl (by kernel_rfl) (sub_whole (by rw [by8_length, List.length_replicate])) (by rw [by8_length, List.length_replicate]))) (RV.tmp rfl) ?_ F_ hF_ hM_)
    have e1 : climbE l g z m = 1 := by unfold climbE; rw [if_neg hbad]
    have e2 : climbV l g z m = (List.replicate 32 0) := by unfold climbV; rw [e1, if_neg (by decide)]
    rw [e1, e2]
    exact ⟨rfl, H23.sub (List.nil_sublist _)⟩
  · skip
    refine GL.run (j := 8) 4 [1, 2, 3, 4, 8, 20] [(1, .int .i64 z), (2, .int .i64 m), (3, .slice A l.length c), (4, pt p3 0), (8, pt p7 0), (20, .bool (decide (z < 0)))] (by kernel_rfl) rfl ?_
    cases hb24 : (decide (z < 0))
    · skip
      have hb24f := of_decide_eq_false hb24
      refine GL.run (j := 12) 4 [1, 2, 3, 4, 8, 24] [(1, .int .i64 z), (2, .int .i64 m), (3, .slice A l.length c), (4, pt p3 0), (8, pt p7 0), (24, .bool (decide (m ≤ z)))] (by kernel_rfl) rfl ?_
      refine GL.k rfl hK14 (fun _ _ h => h) ?_
      cases hb25 : (decide (m ≤ z))
      · skip
        have hb25f := of_decide_eq_false hb25
        obtain ⟨n, rfl⟩ : ∃ n : Nat, m = (n : Int) := ⟨m.toNat, by omega⟩
        obtain ⟨i, rfl⟩ : ∃ i : Nat, z = (i : Int) := ⟨z.toNat, by omega⟩
        have hin : i < n := by omega
        have hlf : 1 ≤ n ∧ n ≤ 65536 := by have h_ := of_decide_eq_true (show leafB (n : Int) = true from by assumption); omega
        have hgd : leafB (n : Int) = true ∧ 0 ≤ (i : Int) ∧ (i : Int) < n := ⟨by assumption, by omega, by omega⟩
        have hrw : rowsN n = cntH n := by unfold rowsN; rw [if_pos (by assumption)]
        refine G.no rfl ?_
        refine G.skipK hK12 (fun _ _ h => h) ?_
        refine G.seqK fun K26 hK27 => ?_
        refine G.seqK fun K28 hK29 => ?_
        refine G.region ?_
        refine GL.run (j := 3) 3 [1, 2, 3, 4, 8, 27, 28] [(1, .int .i64 (i : Int)), (2, .int .i64 (n : Int)), (3, .slice A l.length c), (4, pt p3 0), (8, pt p7 0), (27, .int .i64 (l.length : Int)), (28, .int .i64 (n : Int))] (by kernel_rfl) rfl ?_
        refine GL.call (j := 4) (Rows_calls n w15) (by kernel_rfl) rfl (fun e_ w30 hR => ?_)
        obtain ⟨rfl, H32⟩ := hR
        have H31 : Hp w [] [.blk p3 (by8 g) 25, .blk p7 (by8 (List.replicate 32 0)) 25] w30 := H16.callNil H32
        refine ⟨_, rfl, [1, 2, 3, 4, 8, 27, 29], [(1, .int .i64 (i : Int)), (2, .int .i64 (n : Int)), (3, .slice A l.length c), (4, pt p3 0), (8, pt p7 0), (27, .int .i64 (l.length : Int)), (29, .int .i64 (((rowsN n) : Nat) : Int))], by kernel_rfl, ?_⟩
        refine GL.run (j := 5) 1 [1, 2, 3, 4, 8, 30] [(1, .int .i64 (i : Int)), (2, .int .i64 (n : Int)), (3, .slice A l.length c), (4, pt p3 0), (8, pt p7 0), (30, .bool ((l.length : Int) != (((rowsN n) : Nat) : Int)))] (by kernel_rfl) rfl ?_
        refine GL.k rfl hK29 (fun _ _ h => h) ?_
        cases hb33 : ((l.length : Int) != (((rowsN n) : Nat) : Int))
        · skip
          have hb33f : (l.length : Int) = (((rowsN n) : Nat) : Int) := bne_eq_false_iff_eq.1 hb33
          have hl16 : l.length ≤ 65536 := by have := cntH_le n; omega
          refine G.no rfl ?_
          refine G.skipK hK27 (fun _ _ h => h) ?_
          refine G.seqK fun K34 hK35 => ?_
          refine G.labelK hK35 (fun _ _ h => h) ?_
          refine G.seqK fun K36 hK37 => ?_
          refine G.seqK fun K38 hK39 => ?_
          refine G.region ?_
          refine GL.run (j := 3) 3 [1, 2, 4, 8, 32, 33, 34] [(1, .int .i64 (i : Int)), (2, .int .i64 (n : Int)), (4, pt p3 0), (8, pt p7 0), (32, .slice A l.length c), (33, .int .i64 (l.length : Int)), (34, .int .i64 0)] (by kernel_rfl) rfl ?_
          refine GL.k rfl hK39 (fun _ _ h => h) ?_
          refine G.block ?_
          refine G.fit [1, 2, 4, 8, 32, 33, 34] (M' := [(1, .int .i64 (i : Int)), (2, .int .i64 (n : Int)), (4, pt p3 0), (8, pt p7 0), (32, .slice A l.length c), (33, .int .i64 (l.length : Int)), (34, .int .i64 0)]) (by kernel_rfl) ?_
          refine G.loop (X := Nat × List UInt8 × Nat × Nat) (fun ⟨k, X, j, p⟩ => [(1, .int .i64 (j : Int)), (2, .int .i64 (p : Int)), (4, pt p3 0), (8, pt p7 0), (32, .slice A l.length c), (33, .int .i64 (l.length : Int)), (34, .int .i64 (k : Int))]) (fun ⟨k, X, j, p⟩ w_ => (climbR (l.drop k) X j p = climbR l g i n ∧ X.length = 32 ∧ k ≤ l.length ∧ l.length = k + cntH p ∧ j < p ∧ p ≤ 65536) ∧ Hp w [] [.blk p3 (by8 X) 25, .blk p7 (by8 (List.replicate 32 0)) 25] w_) (fun ⟨k, X, j, p⟩ => l.length - k) ⟨0, g, i, n⟩ [1, 2, 4, 8, 32, 33, 34] (by kernel_rfl) ⟨⟨rfl, hg, Nat.zero_le _, by omega, by omega, by omega⟩, H31⟩ ?_
          rintro ⟨k, X, j, p⟩ w40 ⟨hi41, H42⟩
          refine G.eq (M' := [(1, .int .i64 (j : Int)), (2, .int .i64 (p : Int)), (4, pt p3 0), (8, pt p7 0), (32, .slice A l.length c), (33, .int .i64 (l.length : Int)), (34, .int .i64 (k : Int))]) rfl ?_
          have H42 : Hp w [] [.blk p3 (by8 X) 25, .blk p7 (by8 (List.replicate 32 0)) 25] w40 := H42
          obtain ⟨hcl, hX, hk, hcn, hjp, hp16⟩ := hi41
          refine G.seqK fun K43 hK44 => ?_
          refine G.region ?_
          refine GL.run (j := 1) 1 [1, 2, 4, 8, 32, 33, 34, 35] [(1, .int .i64 (j : Int)), (2, .int .i64 (p : Int)), (4, pt p3 0), (8, pt p7 0), (32, .slice A l.length c), (33, .int .i64 (l.length : Int)), (34, .int .i64 (k : Int)), (35, .bool (decide ((k : Int) < (l.length : Int))))] (by kernel_rfl) rfl ?_
          refine GL.k rfl hK44 (fun _ _ h => h) ?_
          refine G.seqK fun K45 hK46 => ?_
          cases hb47 : (decide ((k : Int) < (l.length : Int)))
          · skip
            have hb47f := of_decide_eq_false hb47
            obtain rfl : k = l.length := by omega
            have hp1 : p = 1 := by by_cases h_ : p ≤ 1; (· omega); (· rw [cntH_step (by omega)] at hcn; omega)
            have hcv : climbR l g i n = (X, true) := by rw [← hcl, hp1, climbR_one, List.drop_length]; rfl
            refine G.no rfl ?_
            refine G.exitK hK37 (fun _ _ h => h) ?_
            refine G.seqK fun K48 hK49 => ?_
            refine G.region ?_
            refine GL.sem (j := 1) (H42.ldA (o := 0) (ty := 25) (m := 32) (sub := by8 X) 0 rfl (by kernel_rfl) (sub_whole (by rw [by8_length, hX])) (by rw [by8_length, hX])) [8, 72] [(8, pt p7 0), (72, .agg (by8 X).toArray)] (by kernel_rfl) (by kernel_rfl) rfl ?_
            obtain ⟨w50, r51, H52⟩ := H42.stA (P := Try.prog) (o := 0) (vs := by8 X) (ty := 25) (m := 32) 1 rfl (by kernel_rfl) (by rw [by8_length, hX]) (Nat.le_of_eq (by rw [Nat.zero_add]; exact ((show (by8 (List.replicate 32 0)).length = 32 from by rw [by8_length]; rfl)).symm)) (by8_one _)
            rw [st_whole (by rw [by8_length]; rfl)] at H52
            have H52 : Hp w [] [.blk p3 (by8 X) 25, .blk p7 (by8 X) 25] w50 := H52
            refine GL.semU (j := 2) r51 [8] [(8, pt p7 0)] (by kernel_rfl) rfl rfl rfl ?_
            refine GL.run (j := 3) 1 [8, 9] [(8, pt p7 0), (9, .int .i64 0)] (by kernel_rfl) rfl ?_
            refine GL.k rfl hK49 (fun _ _ h => h) ?_
            refine G.ret ?_
            intro F_ hF_ hM_
            refine hRet _ _ (bodyPost_2 rfl (RV.cell rfl (H52.ldA (o := 0) (ty := 25) (m := 32) (sub := by8 X) 1 rfl (by kernel_rfl) (sub_whole (by rw [by8_length, hX])) (by rw [by8_length, hX]))) (RV.tmp rfl) ?_ F_ hF_ hM_)
            have e1 : climbE l g (i : Int) (n : Int) = 0 := by unfold climbE; rw [if_pos hgd, if_pos (by rw [Int.toNat_natCast, Int.toNat_natCast, hcv])]
            have e2 : climbV l g (i : Int) (n : Int) = X := by unfold climbV; rw [e1, if_pos rfl, Int.toNat_natCast, Int.toNat_natCast, hcv]
            rw [e1, e2]
            exact ⟨rfl, H52.sub (List.nil_sublist _)⟩
          · skip
            have hb47f := of_decide_eq_true hb47
            have hp2 : 1 < p := by by_cases h_ : p ≤ 1; (· rw [cntH_one h_] at hcn; omega); omega
            have hcs := cntH_step hp2
            refine G.yes rfl ?_
            refine G.skipK hK46 (fun _ _ h => h) ?_
            refine G.seqK fun K53 hK54 => ?_
            refine G.block ?_
            refine G.seqK fun K55 hK56 => ?_
            refine G.region ?_
            refine GL.sem (j := 1) (run_idxRdN (P := Try.prog) (k := .i64) (t := 22) (sz := 32) (A := A) (len := l.length) (cap := c) (j := k) (by kernel_rfl) rfl (hx.hp H42) (by rw [by8_length]; exact flat8_length hok) (by decide) (by omega)) [1, 2, 4, 8, 32, 33, 34, 36] [(1, .int .i64 (j : Int)), (2, .int .i64 (p : Int)), (4, pt p3 0), (8, pt p7 0), (32, .slice A l.length c), (33, .int .i64 (l.length : Int)), (34, .int .i64 (k : Int)), (36, .pointer (Option.map (fun x => Addr.add x (k * 32)) A))] (by kernel_rfl) (by kernel_rfl) rfl ?_
            refine GL.sem (j := 2) (run_ldRdA (P := Try.prog) (ty := 25) (m := 32) (o := (k * 32)) (A := A) (sub := by8 (l.getD k [])) (by kernel_rfl) (hx.hp H42) (flat8_sub hok (by omega)) (by rw [by8_length, ok32_at hok (by omega)]) (by decide)) [1, 2, 4, 8, 32, 33, 34, 37] [(1, .int .i64 (j : Int)), (2, .int .i64 (p : Int)), (4, pt p3 0), (8, pt p7 0), (32, .slice A l.length c), (33, .int .i64 (l.length : Int)), (34, .int .i64 (k : Int)), (37, .agg (by8 (l.getD k [])).toArray)] (by kernel_rfl) (by kernel_rfl) rfl ?_
            obtain ⟨p57, w58, r59, H60⟩ := H42.alloc (P := Try.prog) 25 (by8 (List.replicate 32 0)) (by kernel_rfl)
            have H60 : Hp w [] [.blk p3 (by8 X) 25, .blk p7 (by8 (List.replicate 32 0)) 25, .blk p57 (by8 (List.replicate 32 0)) 25] w58 := H60
            refine GL.sem (j := 3) (r59) [1, 2, 4, 8, 11, 32, 33, 34, 37] [(1, .int .i64 (j : Int)), (2, .int .i64 (p : Int)), (4, pt p3 0), (8, pt p7 0), (11, pt p57 0), (32, .slice A l.length c), (33, .int .i64 (l.length : Int)), (34, .int .i64 (k : Int)), (37, .agg (by8 (l.getD k [])).toArray)] (by kernel_rfl) (by kernel_rfl) rfl ?_
            obtain ⟨w61, r62, H63⟩ := H60.stA (P := Try.prog) (o := 0) (vs := by8 (l.getD k [])) (ty := 25) (m := 32) 2 rfl (by kernel_rfl) (by rw [by8_length, ok32_at hok (by omega)]) (Nat.le_of_eq (by rw [Nat.zero_add]; exact ((show (by8 (List.replicate 32 0)).length = 32 from by rw [by8_length]; rfl)).symm)) (by8_one _)
            rw [st_whole (by rw [by8_length]; rfl)] at H63
            have H63 : Hp w [] [.blk p3 (by8 X) 25, .blk p7 (by8 (List.replicate 32 0)) 25, .blk p57 (by8 (l.getD k [])) 25] w61 := H63
            refine GL.semU (j := 4) r62 [1, 2, 4, 8, 11, 32, 33, 34] [(1, .int .i64 (j : Int)), (2, .int .i64 (p : Int)), (4, pt p3 0), (8, pt p7 0), (11, pt p57 0), (32, .slice A l.length c), (33, .int .i64 (l.length : Int)), (34, .int .i64 (k : Int))] (by kernel_rfl) rfl rfl rfl ?_
            refine GL.k rfl hK56 (fun _ _ h => h) ?_
            refine G.seqJ (X := Unit) (fun _u => [(1, .int .i64 (j : Int)), (2, .int .i64 (p : Int)), (4, pt p3 0), (8, pt p7 0), (11, pt p57 0), (12, .bool (aloneB j p)), (32, .slice A l.length c), (33, .int .i64 (l.length : Int)), (34, .int .i64 (k : Int))]) (fun _u w_ => (True) ∧ Hp w [] [.blk p3 (by8 X) 25, .blk p7 (by8 (List.replicate 32 0)) 25, .blk p57 (by8 (l.getD k [])) 25] w_) (fun J64 K65 hK66 => ?_) ?_
            · skip
              refine G.region ?_
              refine GL.run (j := 5) 5 [1, 2, 4, 8, 11, 32, 33, 34, 42] [(1, .int .i64 (j : Int)), (2, .int .i64 (p : Int)), (4, pt p3 0), (8, pt p7 0), (11, pt p57 0), (32, .slice A l.length c), (33, .int .i64 (l.length : Int)), (34, .int .i64 (k : Int)), (42, .bool ((j : Int) == (IntKind.i64.wrap ((p : Int) - 1))))] (by kernel_rfl) rfl ?_
              have e67 : (IntKind.i64.wrap ((p : Int) - 1)) = (((p - 1) : Nat) : Int) := by rw [in_i64 (by omega)]; omega
              refine GL.eq (M' := [(1, .int .i64 (j : Int)), (2, .int .i64 (p : Int)), (4, pt p3 0), (8, pt p7 0), (11, pt p57 0), (32, .slice A l.length c), (33, .int .i64 (l.length : Int)), (34, .int .i64 (k : Int)), (42, .bool ((j : Int) == (((p - 1) : Nat) : Int)))]) (by rw [e67]) ?_
              clear e67
              cases hb68 : ((j : Int) == (((p - 1) : Nat) : Int))
              · skip
                have hb68f := ne_of_beq_false hb68
                refine GL.run (j := 10) 5 [1, 2, 4, 8, 11, 12, 32, 33, 34] [(1, .int .i64 (j : Int)), (2, .int .i64 (p : Int)), (4, pt p3 0), (8, pt p7 0), (11, pt p57 0), (12, .bool false), (32, .slice A l.length c), (33, .int .i64 (l.length : Int)), (34, .int .i64 (k : Int))] (by kernel_rfl) rfl ?_
                refine GL.k rfl hK66 (fun _ _ h => h) ?_
                refine G.fit [1, 2, 4, 8, 11, 12, 32, 33, 34] (M' := [(1, .int .i64 (j : Int)), (2, .int .i64 (p : Int)), (4, pt p3 0), (8, pt p7 0), (11, pt p57 0), (12, .bool false), (32, .slice A l.length c), (33, .int .i64 (l.length : Int)), (34, .int .i64 (k : Int))]) (by kernel_rfl) ?_
                refine G.eq (M' := [(1, .int .i64 (j : Int)), (2, .int .i64 (p : Int)), (4, pt p3 0), (8, pt p7 0), (11, pt p57 0), (12, .bool (aloneB j p)), (32, .slice A l.length c), (33, .int .i64 (l.length : Int)), (34, .int .i64 (k : Int))]) (by rw [show aloneB j p = false from by unfold aloneB; exact decide_eq_false (by omega)]) ?_
                exact J64 () _ ⟨trivial, H63⟩
              · skip
                have hb68f := eq_of_beq hb68
                refine GL.run (j := 10) 5 [1, 2, 4, 8, 11, 12, 32, 33, 34] [(1, .int .i64 (j : Int)), (2, .int .i64 (p : Int)), (4, pt p3 0), (8, pt p7 0), (11, pt p57 0), (12, .bool ((Go.bits .and .i64 (p : Int) 1) == 1)), (32, .slice A l.length c), (33, .int .i64 (l.length : Int)), (34, .int .i64 (k : Int))] (by kernel_rfl) rfl ?_
                have e69 : (Go.bits .and .i64 (p : Int) 1) = (((p % 2) : Nat) : Int) := i_andO (by omega)
                refine GL.eq (M' := [(1, .int .i64 (j : Int)), (2, .int .i64 (p : Int)), (4, pt p3 0), (8, pt p7 0), (11, pt p57 0), (12, .bool ((((p % 2) : Nat) : Int) == 1)), (32, .slice A l.length c), (33, .int .i64 (l.length : Int)), (34, .int .i64 (k : Int))]) (by rw [e69]) ?_
                clear e69
                refine GL.k rfl hK66 (fun _ _ h => h) ?_
                refine G.fit [1, 2, 4, 8, 11, 12, 32, 33, 34] (M' := [(1, .int .i64 (j : Int)), (2, .int .i64 (p : Int)), (4, pt p3 0), (8, pt p7 0), (11, pt p57 0), (12, .bool ((((p % 2) : Nat) : Int) == 1)), (32, .slice A l.length c), (33, .int .i64 (l.length : Int)), (34, .int .i64 (k : Int))]) (by kernel_rfl) ?_
                refine G.eq (M' := [(1, .int .i64 (j : Int)), (2, .int .i64 (p : Int)), (4, pt p3 0), (8, pt p7 0), (11, pt p57 0), (12, .bool (aloneB j p)), (32, .slice A l.length c), (33, .int .i64 (l.length : Int)), (34, .int .i64 (k : Int))]) (by rw [show aloneB j p = ((((p % 2) : Nat) : Int) == 1) from by unfold aloneB; rw [Bool.eq_iff_iff]; simp only [decide_eq_true_eq, beq_iff_eq]; omega]) ?_
                exact J64 () _ ⟨trivial, H63⟩
            · skip
              rintro _u w70 ⟨hi71, H72⟩
              refine G.eq (M' := [(1, .int .i64 (j : Int)), (2, .int .i64 (p : Int)), (4, pt p3 0), (8, pt p7 0), (11, pt p57 0), (12, .bool (aloneB j p)), (32, .slice A l.length c), (33, .int .i64 (l.length : Int)), (34, .int .i64 (k : Int))]) rfl ?_
              have H72 : Hp w [] [.blk p3 (by8 X) 25, .blk p7 (by8 (List.replicate 32 0)) 25, .blk p57 (by8 (l.getD k [])) 25] w70 := H72
              refine G.seqJ (X := Unit) (fun _v => [(1, .int .i64 (j : Int)), (2, .int .i64 (p : Int)), (4, pt p3 0), (8, pt p7 0), (32, .slice A l.length c), (33, .int .i64 (l.length : Int)), (34, .int .i64 (k : Int))]) (fun _v w_ => (aloneB j p = decide ((l.getD k []) = X)) ∧ Hp w [] [.blk p3 (by8 (turnH X (l.getD k []) j)) 25, .blk p7 (by8 (List.replicate 32 0)) 25, .blk p57 (by8 (l.getD k [])) 25] w_) (fun J73 K74 hK75 => ?_) ?_
              · skip
                refine G.block ?_
                refine G.seqK fun K76 hK77 => ?_
                refine G.region ?_
                refine GL.run (j := 1) 1 [1, 2, 4, 8, 11, 32, 33, 34, 51] [(1, .int .i64 (j : Int)), (2, .int .i64 (p : Int)), (4, pt p3 0), (8, pt p7 0), (11, pt p57 0), (32, .slice A l.length c), (33, .int .i64 (l.length : Int)), (34, .int .i64 (k : Int)), (51, .bool (aloneB j p))] (by kernel_rfl) rfl ?_
                refine GL.sem (j := 2) (H72.ldA (o := 0) (ty := 25) (m := 32) (sub := by8 (l.getD k [])) 2 rfl (by kernel_rfl) (sub_whole (by rw [by8_length, ok32_at hok (by omega)])) (by rw [by8_length, ok32_at hok (by omega)])) [1, 2, 4, 8, 11, 32, 33, 34, 51, 52] [(1, .int .i64 (j : Int)), (2, .int .i64 (p : Int)), (4, pt p3 0), (8, pt p7 0), (11, pt p57 0), (32, .slice A l.length c), (33, .int .i64 (l.length : Int)), (34, .int .i64 (k : Int)), (51, .bool (aloneB j p)), (52, .agg (by8 (l.getD k [])).toArray)] (by kernel_rfl) (by kernel_rfl) rfl ?_
                refine GL.sem (j := 3) (H72.ldA (o := 0) (ty := 25) (m := 32) (sub := by8 X) 0 rfl (by kernel_rfl) (sub_whole (by rw [by8_length, hX])) (by rw [by8_length, hX])) [1, 2, 4, 8, 11, 32, 33, 34, 51, 52, 53] [(1, .int .i64 (j : Int)), (2, .int .i64 (p : Int)), (4, pt p3 0), (8, pt p7 0), (11, pt p57 0), (32, .slice A l.length c), (33, .int .i64 (l.length : Int)), (34, .int .i64 (k : Int)), (51, .bool (aloneB j p)), (52, .agg (by8 (l.getD k [])).toArray), (53, .agg (by8 X).toArray)] (by kernel_rfl) (by kernel_rfl) rfl ?_
                refine GL.sem (j := 4) (run_by8_eql (P := Try.prog) (t := 25) (n := 32) (x := (.tmp 52)) (y := (.tmp 53)) (by kernel_rfl) (l.getD k []) X (by rw [ok32_at hok (by omega)]) (by rw [hX]) _) [1, 2, 4, 8, 11, 32, 33, 34, 51, 54] [(1, .int .i64 (j : Int)), (2, .int .i64 (p : Int)), (4, pt p3 0), (8, pt p7 0), (11, pt p57 0), (32, .slice A l.length c), (33, .int .i64 (l.length : Int)), (34, .int .i64 (k : Int)), (51, .bool (aloneB j p)), (54, .bool (decide ((l.getD k []) = X)))] (by kernel_rfl) (by kernel_rfl) rfl ?_
                refine GL.run (j := 6) 2 [1, 2, 4, 8, 11, 32, 33, 34, 50] [(1, .int .i64 (j : Int)), (2, .int .i64 (p : Int)), (4, pt p3 0), (8, pt p7 0), (11, pt p57 0), (32, .slice A l.length c), (33, .int .i64 (l.length : Int)), (34, .int .i64 (k : Int)), (50, .bool (!((aloneB j p) == (decide ((l.getD k []) = X)))))] (by kernel_rfl) rfl ?_
                refine GL.k rfl hK77 (fun _ _ h => h) ?_
                cases hb78 : ((aloneB j p) == (decide ((l.getD k []) = X)))
                · skip
                  have hb78f := ne_of_beq_false hb78
                  have hne : aloneB j p ≠ decide (l.getD k [] = X) := by simpa using hb78
                  have hcv : climbR l g i n = (List.replicate 32 0, false) := by rw [← hcl, climbR_stop (by omega) (by omega) hne]
                  refine G.yes rfl ?_
                  refine G.seqK fun K79 hK80 => ?_
                  refine G.region ?_
                  refine GL.run (j := 1) 1 [8, 56] [(8, pt p7 0), (56, .agg (by8 (List.replicate 32 0)).toArray)] (by kernel_rfl) rfl ?_
                  obtain ⟨w81, r82, H83⟩ := H72.stA (P := Try.prog) (o := 0) (vs := by8 (List.replicate 32 0)) (ty := 25) (m := 32) 1 rfl (by kernel_rfl) (by rw [by8_length, List.length_replicate]) (Nat.le_of_eq (by rw [Nat.zero_add]; exact ((show (by8 (List.replicate 32 0)).length = 32 from by rw [by8_length]; rfl)).symm)) (by8_one _)
                  rw [st_whole (by rw [by8_length]; rfl)] at H83
                  have H83 : Hp w [] [.blk p3 (by8 X) 25, .blk p7 (by8 (List.replicate 32 0)) 25, .blk p57 (by8 (l.getD k [])) 25] w81 := H83
                  refine GL.semU (j := 2) r82 [8] [(8, pt p7 0)] (by kernel_rfl) rfl rfl rfl ?_
                  refine GL.run (j := 3) 1 [8, 9] [(8, pt p7 0), (9, .int .i64 14)] (by kernel_rfl) rfl ?_
                  refine GL.k rfl hK80 (fun _ _ h => h) ?_
                  refine G.ret ?_
                  intro F_ hF_ hM_
                  refine hRet _ _ (bodyPost_2 rfl (RV.cell rfl (H83.ldA (o := 0) (ty := 25) (m := 32) (sub := by8 (List.replicate 32 0)) 1 rfl (by kernel_rfl) (sub_whole (by rw [by8_length, List.length_replicate])) (by rw [by8_length, List.length_replicate]))) (RV.tmp rfl) ?_ F_ hF_ hM_)
                  have e1 : climbE l g (i : Int) (n : Int) = 14 := by unfold climbE; rw [if_pos hgd, if_neg (by rw [Int.toNat_natCast, Int.toNat_natCast, hcv]; decide)]
                  have e2 : climbV l g (i : Int) (n : Int) = (List.replicate 32 0) := by unfold climbV; rw [e1, if_neg (by decide)]
                  rw [e1, e2]
                  exact ⟨rfl, H83.sub (List.nil_sublist _)⟩
                · skip
                  have hb78f := eq_of_beq hb78
                  have heqk : aloneB j p = decide (l.getD k [] = X) := by simpa using hb78
                  refine G.no rfl ?_
                  refine G.seqK fun K84 hK85 => ?_
                  refine G.region ?_
                  refine GL.run (j := 4) 4 [1, 2, 4, 8, 11, 32, 33, 34, 57] [(1, .int .i64 (j : Int)), (2, .int .i64 (p : Int)), (4, pt p3 0), (8, pt p7 0), (11, pt p57 0), (32, .slice A l.length c), (33, .int .i64 (l.length : Int)), (34, .int .i64 (k : Int)), (57, .bool ((Go.bits .and .i64 (j : Int) 1) == 1))] (by kernel_rfl) rfl ?_
                  have e86 : (Go.bits .and .i64 (j : Int) 1) = (((j % 2) : Nat) : Int) := i_andO (by omega)
                  refine GL.eq (M' := [(1, .int .i64 (j : Int)), (2, .int .i64 (p : Int)), (4, pt p3 0), (8, pt p7 0), (11, pt p57 0), (32, .slice A l.length c), (33, .int .i64 (l.length : Int)), (34, .int .i64 (k : Int)), (57, .bool ((((j % 2) : Nat) : Int) == 1))]) (by rw [e86]) ?_
                  clear e86
                  refine GL.k rfl hK85 (fun _ _ h => h) ?_
                  cases hb87 : ((((j % 2) : Nat) : Int) == 1)
                  · skip
                    have hb87f := ne_of_beq_false hb87
                    refine G.no rfl ?_
                    refine G.region ?_
                    refine GL.sem (j := 1) (H72.ldA (o := 0) (ty := 25) (m := 32) (sub := by8 X) 0 rfl (by kernel_rfl) (sub_whole (by rw [by8_length, hX])) (by rw [by8_length, hX])) [1, 2, 4, 8, 11, 32, 33, 34, 47] [(1, .int .i64 (j : Int)), (2, .int .i64 (p : Int)), (4, pt p3 0), (8, pt p7 0), (11, pt p57 0), (32, .slice A l.length c), (33, .int .i64 (l.length : Int)), (34, .int .i64 (k : Int)), (47, .agg (by8 X).toArray)] (by kernel_rfl) (by kernel_rfl) rfl ?_
                    refine GL.sem (j := 2) (H72.ldA (o := 0) (ty := 25) (m := 32) (sub := by8 (l.getD k [])) 2 rfl (by kernel_rfl) (sub_whole (by rw [by8_length, ok32_at hok (by omega)])) (by rw [by8_length, ok32_at hok (by omega)])) [1, 2, 4, 8, 32, 33, 34, 47, 48] [(1, .int .i64 (j : Int)), (2, .int .i64 (p : Int)), (4, pt p3 0), (8, pt p7 0), (32, .slice A l.length c), (33, .int .i64 (l.length : Int)), (34, .int .i64 (k : Int)), (47, .agg (by8 X).toArray), (48, .agg (by8 (l.getD k [])).toArray)] (by kernel_rfl) (by kernel_rfl) rfl ?_
                    refine GL.call (j := 3) (Both_calls X (l.getD k []) (by rw [hX]) (by rw [ok32_at hok (by omega)]) w70) (by kernel_rfl) rfl (fun e_ w88 hR => ?_)
                    obtain ⟨rfl, H90⟩ := hR
                    have H89 : Hp w [] [.blk p3 (by8 X) 25, .blk p7 (by8 (List.replicate 32 0)) 25, .blk p57 (by8 (l.getD k [])) 25] w88 := H72.callNil H90
                    refine ⟨_, rfl, [1, 2, 4, 8, 32, 33, 34, 49], [(1, .int .i64 (j : Int)), (2, .int .i64 (p : Int)), (4, pt p3 0), (8, pt p7 0), (32, .slice A l.length c), (33, .int .i64 (l.length : Int)), (34, .int .i64 (k : Int)), (49, .agg (by8 (bothH X (l.getD k []))).toArray)], by kernel_rfl, ?_⟩
                    obtain ⟨w91, r92, H93⟩ := H89.stA (P := Try.prog) (o := 0) (vs := by8 (bothH X (l.getD k []))) (ty := 25) (m := 32) 0 rfl (by kernel_rfl) (by rw [by8_length, bothH_length]) (Nat.le_of_eq (by rw [Nat.zero_add]; exact ((show (by8 X).length = 32 from by rw [by8_length, hX])).symm)) (by8_one _)
                    rw [st_whole (by rw [by8_length, hX])] at H93
                    have H93 : Hp w [] [.blk p3 (by8 (bothH X (l.getD k []))) 25, .blk p7 (by8 (List.replicate 32 0)) 25, .blk p57 (by8 (l.getD k [])) 25] w91 := H93
                    refine GL.semU (j := 4) r92 [1, 2, 4, 8, 32, 33, 34] [(1, .int .i64 (j : Int)), (2, .int .i64 (p : Int)), (4, pt p3 0), (8, pt p7 0), (32, .slice A l.length c), (33, .int .i64 (l.length : Int)), (34, .int .i64 (k : Int))] (by kernel_rfl) rfl rfl rfl ?_
                    refine GL.k rfl hK75 (fun _ _ h => h) ?_
                    have H94 : Hp w [] [.blk p3 (by8 (turnH X (l.getD k []) j)) 25, .blk p7 (by8 (List.replicate 32 0)) 25, .blk p57 (by8 (l.getD k [])) 25] w91 := by unfold turnH; rw [if_neg (by omega)]; exact H93
                    refine G.fit [1, 2, 4, 8, 32, 33, 34] (M' := [(1, .int .i64 (j : Int)), (2, .int .i64 (p : Int)), (4, pt p3 0), (8, pt p7 0), (32, .slice A l.length c), (33, .int .i64 (l.length : Int)), (34, .int .i64 (k : Int))]) (by kernel_rfl) ?_
                    exact J73 () _ ⟨heqk, H94⟩
                  · skip
                    have hb87f := eq_of_beq hb87
                    refine G.yes rfl ?_
                    refine G.region ?_
                    refine GL.sem (j := 1) (H72.ldA (o := 0) (ty := 25) (m := 32) (sub := by8 (l.getD k [])) 2 rfl (by kernel_rfl) (sub_whole (by rw [by8_length, ok32_at hok (by omega)])) (by rw [by8_length, ok32_at hok (by omega)])) [1, 2, 4, 8, 32, 33, 34, 61] [(1, .int .i64 (j : Int)), (2, .int .i64 (p : Int)), (4, pt p3 0), (8, pt p7 0), (32, .slice A l.length c), (33, .int .i64 (l.length : Int)), (34, .int .i64 (k : Int)), (61, .agg (by8 (l.getD k [])).toArray)] (by kernel_rfl) (by kernel_rfl) rfl ?_
                    refine GL.sem (j := 2) (H72.ldA (o := 0) (ty := 25) (m := 32) (sub := by8 X) 0 rfl (by kernel_rfl) (sub_whole (by rw [by8_length, hX])) (by rw [by8_length, hX])) [1, 2, 4, 8, 32, 33, 34, 61, 62] [(1, .int .i64 (j : Int)), (2, .int .i64 (p : Int)), (4, pt p3 0), (8, pt p7 0), (32, .slice A l.length c), (33, .int .i64 (l.length : Int)), (34, .int .i64 (k : Int)), (61, .agg (by8 (l.getD k [])).toArray), (62, .agg (by8 X).toArray)] (by kernel_rfl) (by kernel_rfl) rfl ?_
                    refine GL.call (j := 3) (Both_calls (l.getD k []) X (by rw [ok32_at hok (by omega)]) (by rw [hX]) w70) (by kernel_rfl) rfl (fun e_ w95 hR => ?_)
                    obtain ⟨rfl, H97⟩ := hR
                    have H96 : Hp w [] [.blk p3 (by8 X) 25, .blk p7 (by8 (List.replicate 32 0)) 25, .blk p57 (by8 (l.getD k [])) 25] w95 := H72.callNil H97
                    refine ⟨_, rfl, [1, 2, 4, 8, 32, 33, 34, 63], [(1, .int .i64 (j : Int)), (2, .int .i64 (p : Int)), (4, pt p3 0), (8, pt p7 0), (32, .slice A l.length c), (33, .int .i64 (l.length : Int)), (34, .int .i64 (k : Int)), (63, .agg (by8 (bothH (l.getD k []) X)).toArray)], by kernel_rfl, ?_⟩
                    obtain ⟨w98, r99, H100⟩ := H96.stA (P := Try.prog) (o := 0) (vs := by8 (bothH (l.getD k []) X)) (ty := 25) (m := 32) 0 rfl (by kernel_rfl) (by rw [by8_length, bothH_length]) (Nat.le_of_eq (by rw [Nat.zero_add]; exact ((show (by8 X).length = 32 from by rw [by8_length, hX])).symm)) (by8_one _)
                    rw [st_whole (by rw [by8_length, hX])] at H100
                    have H100 : Hp w [] [.blk p3 (by8 (bothH (l.getD k []) X)) 25, .blk p7 (by8 (List.replicate 32 0)) 25, .blk p57 (by8 (l.getD k [])) 25] w98 := H100
                    refine GL.semU (j := 4) r99 [1, 2, 4, 8, 32, 33, 34] [(1, .int .i64 (j : Int)), (2, .int .i64 (p : Int)), (4, pt p3 0), (8, pt p7 0), (32, .slice A l.length c), (33, .int .i64 (l.length : Int)), (34, .int .i64 (k : Int))] (by kernel_rfl) rfl rfl rfl ?_
                    refine GL.k rfl hK75 (fun _ _ h => h) ?_
                    have H101 : Hp w [] [.blk p3 (by8 (turnH X (l.getD k []) j)) 25, .blk p7 (by8 (List.replicate 32 0)) 25, .blk p57 (by8 (l.getD k [])) 25] w98 := by unfold turnH; rw [if_pos (by omega)]; exact H100
                    refine G.fit [1, 2, 4, 8, 32, 33, 34] (M' := [(1, .int .i64 (j : Int)), (2, .int .i64 (p : Int)), (4, pt p3 0), (8, pt p7 0), (32, .slice A l.length c), (33, .int .i64 (l.length : Int)), (34, .int .i64 (k : Int))]) (by kernel_rfl) ?_
                    exact J73 () _ ⟨heqk, H101⟩
              · skip
                rintro _v w102 ⟨hi103, H104⟩
                refine G.eq (M' := [(1, .int .i64 (j : Int)), (2, .int .i64 (p : Int)), (4, pt p3 0), (8, pt p7 0), (32, .slice A l.length c), (33, .int .i64 (l.length : Int)), (34, .int .i64 (k : Int))]) rfl ?_
                have H104 : Hp w [] [.blk p3 (by8 (turnH X (l.getD k []) j)) 25, .blk p7 (by8 (List.replicate 32 0)) 25, .blk p57 (by8 (l.getD k [])) 25] w102 := H104
                have heqk := hi103
                refine G.seqK fun K105 hK106 => ?_
                refine G.region ?_
                refine GL.run (j := 7) 7 [1, 2, 4, 8, 32, 33, 34] [(1, .int .i64 (IntKind.i64.wrap (Int.tdiv (j : Int) 2))), (2, .int .i64 (IntKind.i64.wrap (Int.tdiv (IntKind.i64.wrap ((p : Int) + 1)) 2))), (4, pt p3 0), (8, pt p7 0), (32, .slice A l.length c), (33, .int .i64 (l.length : Int)), (34, .int .i64 (k : Int))] (by kernel_rfl) rfl ?_
                have e107 : (IntKind.i64.wrap (Int.tdiv (j : Int) 2)) = (((j / 2) : Nat) : Int) := i_quo (a := j) 2 (by omega)
                have e108 : (IntKind.i64.wrap ((p : Int) + 1)) = ((p + 1 : Nat) : Int) := by rw [in_i64 (by omega)]; omega
                have e109 : (IntKind.i64.wrap (Int.tdiv ((p + 1 : Nat) : Int) 2)) = ((((p + 1) / 2) : Nat) : Int) := i_quo (a := (p + 1)) 2 (by omega)
                refine GL.eq (M' := [(1, .int .i64 (((j / 2) : Nat) : Int)), (2, .int .i64 ((((p + 1) / 2) : Nat) : Int)), (4, pt p3 0), (8, pt p7 0), (32, .slice A l.length c), (33, .int .i64 (l.length : Int)), (34, .int .i64 (k : Int))]) (by rw [e107, e108, e109]) ?_
                clear e107 e108 e109
                refine GL.k rfl hK106 (fun _ _ h => h) ?_
                refine G.seqK fun K110 hK111 => ?_
                refine G.region ?_
                refine GL.run (j := 2) 2 [1, 2, 4, 8, 32, 33, 34, 70] [(1, .int .i64 (((j / 2) : Nat) : Int)), (2, .int .i64 ((((p + 1) / 2) : Nat) : Int)), (4, pt p3 0), (8, pt p7 0), (32, .slice A l.length c), (33, .int .i64 (l.length : Int)), (34, .int .i64 (k : Int)), (70, .bool (((((p + 1) / 2) : Nat) : Int) == 1))] (by kernel_rfl) rfl ?_
                refine GL.k rfl hK111 (fun _ _ h => h) ?_
                cases hb112 : (((((p + 1) / 2) : Nat) : Int) == 1)
                · skip
                  have hb112f := ne_of_beq_false hb112
                  refine G.no rfl ?_
                  refine G.skipK hK54 (fun _ _ h => h) ?_
                  refine G.region ?_
                  refine GL.run (j := 2) 2 [1, 2, 4, 8, 32, 33, 34] [(1, .int .i64 (((j / 2) : Nat) : Int)), (2, .int .i64 ((((p + 1) / 2) : Nat) : Int)), (4, pt p3 0), (8, pt p7 0), (32, .slice A l.length c), (33, .int .i64 (l.length : Int)), (34, .int .i64 (IntKind.i64.wrap ((k : Int) + 1)))] (by kernel_rfl) rfl ?_
                  have e113 : (IntKind.i64.wrap ((k : Int) + 1)) = ((k + 1 : Nat) : Int) := by rw [in_i64 (by omega)]; omega
                  refine GL.eq (M' := [(1, .int .i64 (((j / 2) : Nat) : Int)), (2, .int .i64 ((((p + 1) / 2) : Nat) : Int)), (4, pt p3 0), (8, pt p7 0), (32, .slice A l.length c), (33, .int .i64 (l.length : Int)), (34, .int .i64 ((k + 1 : Nat) : Int))]) (by rw [e113]) ?_
                  clear e113
                  have H114 : Hp w [] [.blk p3 (by8 (turnH X (l.getD k []) j)) 25, .blk p7 (by8 (List.replicate 32 0)) 25] w102 := H104.sub (List.Sublist.cons_cons _ (List.Sublist.cons_cons _ (List.Sublist.cons _ (List.Sublist.slnil))))
                  refine GL.fit (ts := [1, 2, 4, 8, 32, 33, 34]) (M' := [(1, .int .i64 (((j / 2) : Nat) : Int)), (2, .int .i64 ((((p + 1) / 2) : Nat) : Int)), (4, pt p3 0), (8, pt p7 0), (32, .slice A l.length c), (33, .int .i64 (l.length : Int)), (34, .int .i64 ((k + 1 : Nat) : Int))]) (by kernel_rfl) ?_
                  refine GL.eq (M' := [(1, .int .i64 (((j / 2) : Nat) : Int)), (2, .int .i64 ((((p + 1) / 2) : Nat) : Int)), (4, pt p3 0), (8, pt p7 0), (32, .slice A l.length c), (33, .int .i64 (l.length : Int)), (34, .int .i64 (((k + 1) : Nat) : Int))]) (by rfl) ?_
                  exact GL.again ⟨(k + 1), (turnH X (l.getD k []) j), (j / 2), ((p + 1) / 2)⟩ [1, 2, 4, 8, 32, 33, 34] rfl (by kernel_rfl) (by show l.length - (k + 1) < l.length - k; omega) ⟨⟨by rw [← climbR_on (by omega) (by omega) (by assumption)]; exact hcl, turnH_length _ _ _, by omega, by rw [hcs] at hcn; omega, by omega, by omega⟩, H114⟩
                · skip
                  have hb112f := eq_of_beq hb112
                  have hcv : climbR l g i n = (turnH X (l.getD k []) j, true) := by rw [← hcl, climbR_on (by omega) (by omega) heqk, show (p + 1) / 2 = 1 by omega, climbR_one, List.length_drop, show l.length - (k + 1) = 0 by rw [cntH_step hp2, cntH_one (by omega)] at hcn; omega]; rfl
                  refine G.yes rfl ?_
                  refine G.exitK hK37 (fun _ _ h => h) ?_
                  refine G.seqK fun K115 hK116 => ?_
                  refine G.region ?_
                  refine GL.sem (j := 1) (H104.ldA (o := 0) (ty := 25) (m := 32) (sub := by8 (turnH X (l.getD k []) j)) 0 rfl (by kernel_rfl) (sub_whole (by rw [by8_length, turnH_length _ _ _])) (by rw [by8_length, turnH_length _ _ _])) [8, 72] [(8, pt p7 0), (72, .agg (by8 (turnH X (l.getD k []) j)).toArray)] (by kernel_rfl) (by kernel_rfl) rfl ?_
                  obtain ⟨w117, r118, H119⟩ := H104.stA (P := Try.prog) (o := 0) (vs := by8 (turnH X (l.getD k []) j)) (ty := 25) (m := 32) 1 rfl (by kernel_rfl) (by rw [by8_length, turnH_length _ _ _]) (Nat.le_of_eq (by rw [Nat.zero_add]; exact ((show (by8 (List.replicate 32 0)).length = 32 from by rw [by8_length]; rfl)).symm)) (by8_one _)
                  rw [st_whole (by rw [by8_length]; rfl)] at H119
                  have H119 : Hp w [] [.blk p3 (by8 (turnH X (l.getD k []) j)) 25, .blk p7 (by8 (turnH X (l.getD k []) j)) 25, .blk p57 (by8 (l.getD k [])) 25] w117 := H119
                  refine GL.semU (j := 2) r118 [8] [(8, pt p7 0)] (by kernel_rfl) rfl rfl rfl ?_
                  refine GL.run (j := 3) 1 [8, 9] [(8, pt p7 0), (9, .int .i64 0)] (by kernel_rfl) rfl ?_
                  refine GL.k rfl hK116 (fun _ _ h => h) ?_
                  refine G.ret ?_
                  intro F_ hF_ hM_
                  refine hRet _ _ (bodyPost_2 rfl (RV.cell rfl (H119.ldA (o := 0) (ty := 25) (m := 32) (sub := by8 (turnH X (l.getD k []) j)) 1 rfl (by kernel_rfl) (sub_whole (by rw [by8_length, turnH_length _ _ _])) (by rw [by8_length, turnH_length _ _ _]))) (RV.tmp rfl) ?_ F_ hF_ hM_)
                  have e1 : climbE l g (i : Int) (n : Int) = 0 := by unfold climbE; rw [if_pos hgd, if_pos (by rw [Int.toNat_natCast, Int.toNat_natCast, hcv])]
                  have e2 : climbV l g (i : Int) (n : Int) = turnH X (l.getD k []) j := by unfold climbV; rw [e1, if_pos rfl, Int.toNat_natCast, Int.toNat_natCast, hcv]
                  rw [e1, e2]
                  exact ⟨rfl, H119.sub (List.nil_sublist _)⟩
        · skip
          have hb33f : (l.length : Int) ≠ (((rowsN n) : Nat) : Int) := bne_iff_ne.1 hb33
          have hno : (climbR l g i n).2 ≠ true := fun h => by have := climbR_len l g i n (by omega) h; omega
          refine G.yes rfl ?_
          refine G.seqK fun K120 hK121 => ?_
          refine G.region ?_
          refine GL.run (j := 1) 1 [8, 31] [(8, pt p7 0), (31, .agg (by8 (List.replicate 32 0)).toArray)] (by kernel_rfl) rfl ?_
          obtain ⟨w122, r123, H124⟩ := H31.stA (P := Try.prog) (o := 0) (vs := by8 (List.replicate 32 0)) (ty := 25) (m := 32) 1 rfl (by kernel_rfl) (by rw [by8_length, List.length_replicate]) (Nat.le_of_eq (by rw [Nat.zero_add]; exact ((show (by8 (List.replicate 32 0)).length = 32 from by rw [by8_length]; rfl)).symm)) (by8_one _)
          rw [st_whole (by rw [by8_length]; rfl)] at H124
          have H124 : Hp w [] [.blk p3 (by8 g) 25, .blk p7 (by8 (List.replicate 32 0)) 25] w122 := H124
          refine GL.semU (j := 2) r123 [8] [(8, pt p7 0)] (by kernel_rfl) rfl rfl rfl ?_
          refine GL.run (j := 3) 1 [8, 9] [(8, pt p7 0), (9, .int .i64 14)] (by kernel_rfl) rfl ?_
          refine GL.k rfl hK121 (fun _ _ h => h) ?_
          refine G.ret ?_
          intro F_ hF_ hM_
          refine hRet _ _ (bodyPost_2 rfl (RV.cell rfl (H124.ldA (o := 0) (ty := 25) (m := 32) (sub := by8 (List.replicate 32 0)) 1 rfl (by kernel_rfl) (sub_whole (by rw [by8_length, List.length_replicate])) (by rw [by8_length, List.length_replicate]))) (RV.tmp rfl) ?_ F_ hF_ hM_)
          have e1 : climbE l g (i : Int) (n : Int) = 14 := by unfold climbE; rw [if_pos hgd, if_neg (by exact hno)]
          have e2 : climbV l g (i : Int) (n : Int) = (List.replicate 32 0) := by unfold climbV; rw [e1, if_neg (by decide)]
          rw [e1, e2]
          exact ⟨rfl, H124.sub (List.nil_sublist _)⟩
      · skip
        have hb25f := of_decide_eq_true hb25
        have hbad : ¬ (leafB m = true ∧ 0 ≤ z ∧ z < m) := by omega
        refine G.yes rfl ?_
        refine G.seqK fun K125 hK126 => ?_
        refine G.region ?_
        refine GL.run (j := 1) 1 [8, 25] [(8, pt p7 0), (25, .agg (by8 (List.replicate 32 0)).toArray)] (by kernel_rfl) rfl ?_
        obtain ⟨w127, r128, H129⟩ := H16.stA (P := Try.prog) (o := 0) (vs := by8 (List.replicate 32 0)) (ty := 25) (m := 32) 1 rfl (by kernel_rfl) (by rw [by8_length, List.length_replicate]) (Nat.le_of_eq (by rw [Nat.zero_add]; exact ((show (by8 (List.replicate 32 0)).length = 32 from by rw [by8_length]; rfl)).symm)) (by8_one _)
        rw [st_whole (by rw [by8_length]; rfl)] at H129
        have H129 : Hp w [] [.blk p3 (by8 g) 25, .blk p7 (by8 (List.replicate 32 0)) 25] w127 := H129
        refine GL.semU (j := 2) r128 [8] [(8, pt p7 0)] (by kernel_rfl) rfl rfl rfl ?_
        refine GL.run (j := 3) 1 [8, 9] [(8, pt p7 0), (9, .int .i64 1)] (by kernel_rfl) rfl ?_
        refine GL.k rfl hK126 (fun _ _ h => h) ?_
        refine G.ret ?_
        intro F_ hF_ hM_
        refine hRet _ _ (bodyPost_2 rfl (RV.cell rfl (H129.ldA (o := 0) (ty := 25) (m := 32) (sub := by8 (List.replicate 32 0)) 1 rfl (by kernel_rfl) (sub_whole (by rw [by8_length, List.length_replicate])) (by rw [by8_length, List.length_replicate]))) (RV.tmp rfl) ?_ F_ hF_ hM_)
        have e1 : climbE l g z m = 1 := by unfold climbE; rw [if_neg hbad]
        have e2 : climbV l g z m = (List.replicate 32 0) := by unfold climbV; rw [e1, if_neg (by decide)]
        rw [e1, e2]
        exact ⟨rfl, H129.sub (List.nil_sublist _)⟩
    · skip
      have hb24f := of_decide_eq_true hb24
      have hbad : ¬ (leafB m = true ∧ 0 ≤ z ∧ z < m) := by omega
      refine GL.run (j := 12) 4 [1, 2, 3, 4, 8, 24] [(1, .int .i64 z), (2, .int .i64 m), (3, .slice A l.length c), (4, pt p3 0), (8, pt p7 0), (24, .bool true)] (by kernel_rfl) rfl ?_
      refine GL.k rfl hK14 (fun _ _ h => h) ?_
      refine G.yes rfl ?_
      refine G.seqK fun K130 hK131 => ?_
      refine G.region ?_
      refine GL.run (j := 1) 1 [8, 25] [(8, pt p7 0), (25, .agg (by8 (List.replicate 32 0)).toArray)] (by kernel_rfl) rfl ?_
      obtain ⟨w132, r133, H134⟩ := H16.stA (P := Try.prog) (o := 0) (vs := by8 (List.replicate 32 0)) (ty := 25) (m := 32) 1 rfl (by kernel_rfl) (by rw [by8_length, List.length_replicate]) (Nat.le_of_eq (by rw [Nat.zero_add]; exact ((show (by8 (List.replicate 32 0)).length = 32 from by rw [by8_length]; rfl)).symm)) (by8_one _)
      rw [st_whole (by rw [by8_length]; rfl)] at H134
      have H134 : Hp w [] [.blk p3 (by8 g) 25, .blk p7 (by8 (List.replicate 32 0)) 25] w132 := H134
      refine GL.semU (j := 2) r133 [8] [(8, pt p7 0)] (by kernel_rfl) rfl rfl rfl ?_
      refine GL.run (j := 3) 1 [8, 9] [(8, pt p7 0), (9, .int .i64 1)] (by kernel_rfl) rfl ?_
      refine GL.k rfl hK131 (fun _ _ h => h) ?_
      refine G.ret ?_
      intro F_ hF_ hM_
      refine hRet _ _ (bodyPost_2 rfl (RV.cell rfl (H134.ldA (o := 0) (ty := 25) (m := 32) (sub := by8 (List.replicate 32 0)) 1 rfl (by kernel_rfl) (sub_whole (by rw [by8_length, List.length_replicate])) (by rw [by8_length, List.length_replicate]))) (RV.tmp rfl) ?_ F_ hF_ hM_)
      have e1 : climbE l g z m = 1 := by unfold climbE; rw [if_neg hbad]
      have e2 : climbV l g z m = (List.replicate 32 0) := by unfold climbV; rw [e1, if_neg (by decide)]
      rw [e1, e2]
      exact ⟨rfl, H134.sub (List.nil_sublist _)⟩
end Go.Proofs.Ytgmggjnoegelgaa
namespace Go.Proofs.Ytgmggjnoegelgaa
open Go.RowKit
def checkB (l : List (List UInt8)) (r g : List UInt8) (z m : Int) : Bool := decide (climbE l g z m = 0 ∧ climbV l g z m = r)
theorem Check_calls2 (r : List UInt8) (hr : r.length = 32) (g : List UInt8) (hg : g.length = 32) (z m : Int) (A : Option Addr) (c : Nat) (l : List (List UInt8)) (w : World) (hx : RdS w A (by8 (flat8 l))) (hok : ok32 l) (hc : l.length ≤ c) : Calls Try.prog 17 #[.agg (by8 r).toArray, .agg (by8 g).toArray, .int .i64 z, .int .i64 m, .slice A l.length c] w fun e w' => e = .returned (.bool (checkB l r g z m)) ∧ Hp w [] [] w' := by
  refine calls_G (args := [.agg (by8 r).toArray, .agg (by8 g).toArray, .int .i64 z, .int .i64 m, .slice A l.length c]) Try.func17 rfl Try.ntmps17 rfl ?_
  intro Q0 hRet hNor hPan
  have H := Hp.start w
  have H : Hp w [] [] w := H
  refine G.seqK fun K1 hK2 => ?_
  refine G.region ?_
  obtain ⟨p3, w4, r5, H6⟩ := H.box (P := Try.prog) 25 (by8 r) (.agg (by8 r).toArray) rfl
  have H6 : Hp w [] [.blk p3 (by8 r) 25] w4 := H6
  refine GL.sem (j := 1) (r5) [1, 2, 3, 4, 5] [(1, .agg (by8 g).toArray), (2, .int .i64 z), (3, .int .i64 m), (4, .slice A l.length c), (5, pt p3 0)] (by kernel_rfl) (by kernel_rfl) rfl ?_
  obtain ⟨p7, w8, r9, H10⟩ := H6.box (P := Try.prog) 25 (by8 g) (.agg (by8 g).toArray) rfl
  have H10 : Hp w [] [.blk p3 (by8 r) 25, .blk p7 (by8 g) 25] w8 := H10
  refine GL.sem (j := 2) (r9) [2, 3, 4, 5, 6] [(2, .int .i64 z), (3, .int .i64 m), (4, .slice A l.length c), (5, pt p3 0), (6, pt p7 0)] (by kernel_rfl) (by kernel_rfl) rfl ?_
  refine GL.run (j := 3) 1 [2, 3, 4, 5, 6] [(2, .int .i64 z), (3, .int .i64 m), (4, .slice A l.length c), (5, pt p3 0), (6, pt p7 0)] (by kernel_rfl) rfl ?_
  refine GL.k rfl hK2 (fun _ _ h => h) ?_
  refine G.seqK fun K11 hK12 => ?_
  refine G.region ?_
  refine GL.sem (j := 1) (H10.ldA (o := 0) (ty := 25) (m := 32) (sub := by8 g) 1 rfl (by kernel_rfl) (sub_whole (by rw [by8_length, hg])) (by rw [by8_length, hg])) [2, 3, 4, 5, 14] [(2, .int .i64 z), (3, .int .i64 m), (4, .slice A l.length c), (5, pt p3 0), (14, .agg (by8 g).toArray)] (by kernel_rfl) (by kernel_rfl) rfl ?_
  refine GL.run (j := 4) 3 [5, 14, 15, 16, 17] [(5, pt p3 0), (14, .agg (by8 g).toArray), (15, .int .i64 z), (16, .int .i64 m), (17, .slice A l.length c)] (by kernel_rfl) rfl ?_
  refine GL.call (j := 5) (Climb_calls g (by rw [hg]) z m A c l w8 (hx.hp H10) hok (by omega)) (by kernel_rfl) rfl (fun e_ w13 hR => ?_)
  obtain ⟨rfl, H15⟩ := hR
  have H14 : Hp w [] [.blk p3 (by8 r) 25, .blk p7 (by8 g) 25] w13 := H10.callNil H15
  refine ⟨_, rfl, [5, 18], [(5, pt p3 0), (18, .tuple #[.agg (by8 (climbV l g z m)).toArray, .int .i64 (((climbE l g z m) : Nat) : Int)])], by kernel_rfl, ?_⟩
  refine GL.run (j := 8) 3 [5, 19, 20] [(5, pt p3 0), (19, .agg (by8 (climbV l g z m)).toArray), (20, .int .i64 (((climbE l g z m) : Nat) : Int))] (by kernel_rfl) rfl ?_
  obtain ⟨p16, w17, r18, H19⟩ := H14.alloc (P := Try.prog) 25 (by8 (List.replicate 32 0)) (by kernel_rfl)
  have H19 : Hp w [] [.blk p3 (by8 r) 25, .blk p7 (by8 g) 25, .blk p16 (by8 (List.replicate 32 0)) 25] w17 := H19
  refine GL.sem (j := 9) (r18) [5, 11, 19, 20] [(5, pt p3 0), (11, pt p16 0), (19, .agg (by8 (climbV l g z m)).toArray), (20, .int .i64 (((climbE l g z m) : Nat) : Int))] (by kernel_rfl) (by kernel_rfl) rfl ?_
  obtain ⟨w20, r21, H22⟩ := H19.stA (P := Try.prog) (o := 0) (vs := by8 (climbV l g z m)) (ty := 25) (m := 32) 2 rfl (by kernel_rfl) (by rw [by8_length, climbV_length hg]) (Nat.le_of_eq (by rw [Nat.zero_add]; exact ((show (by8 (List.replicate 32 0)).length = 32 from by rw [by8_length]; rfl)).symm)) (by8_one _)
  rw [st_whole (by rw [by8_length]; rfl)] at H22
  have H22 : Hp w [] [.blk p3 (by8 r) 25, .blk p7 (by8 g) 25, .blk p16 (by8 (climbV l g z m)) 25] w20 := H22
  refine GL.semU (j := 10) r21 [5, 11, 20] [(5, pt p3 0), (11, pt p16 0), (20, .int .i64 (((climbE l g z m) : Nat) : Int))] (by kernel_rfl) rfl rfl rfl ?_
  refine GL.run (j := 11) 1 [5, 11, 12] [(5, pt p3 0), (11, pt p16 0), (12, .int .i64 (((climbE l g z m) : Nat) : Int))] (by kernel_rfl) rfl ?_
  refine GL.k rfl hK12 (fun _ _ h => h) ?_
  refine G.seqK fun K23 hK24 => ?_
  refine G.region ?_
  refine GL.run (j := 3) 3 [5, 11, 23] [(5, pt p3 0), (11, pt p16 0), (23, .bool ((((climbE l g z m) : Nat) : Int) == 0))] (by kernel_rfl) rfl ?_
  cases hb25 : ((((climbE l g z m) : Nat) : Int) == 0)
  · skip
    have hb25f := ne_of_beq_false hb25
    refine GL.run (j := 8) 5 [10] [(10, .bool false)] (by kernel_rfl) rfl ?_
    refine GL.k rfl hK24 (fun _ _ h => h) ?_
    refine G.ret ?_
    intro F_ hF_ hM_
    refine hRet _ _ (bodyPost_1 rfl (RV.tmp rfl) ?_ F_ hF_ hM_)
    have e0 : checkB l r g z m = false := decide_eq_false (fun h => by omega)
    rw [e0]
    exact ⟨rfl, H22.sub (List.nil_sublist _)⟩
  · skip
    have hb25f := eq_of_beq hb25
    refine GL.sem (j := 4) (H22.ldA (o := 0) (ty := 25) (m := 32) (sub := by8 (climbV l g z m)) 2 rfl (by kernel_rfl) (sub_whole (by rw [by8_length, climbV_length hg])) (by rw [by8_length, climbV_length hg])) [5, 23, 24] [(5, pt p3 0), (23, .bool true), (24, .agg (by8 (climbV l g z m)).toArray)] (by kernel_rfl) (by kernel_rfl) rfl ?_
    refine GL.sem (j := 5) (H22.ldA (o := 0) (ty := 25) (m := 32) (sub := by8 r) 0 rfl (by kernel_rfl) (sub_whole (by rw [by8_length, hr])) (by rw [by8_length, hr])) [23, 24, 25] [(23, .bool true), (24, .agg (by8 (climbV l g z m)).toArray), (25, .agg (by8 r).toArray)] (by kernel_rfl) (by kernel_rfl) rfl ?_
    refine GL.sem (j := 6) (run_by8_eql (P := Try.prog) (t := 25) (n := 32) (x := (.tmp 24)) (y := (.tmp 25)) (by kernel_rfl) (climbV l g z m) r (by rw [climbV_length hg]) (by rw [hr]) _) [23, 26] [(23, .bool true), (26, .bool (decide ((climbV l g z m) = r)))] (by kernel_rfl) (by kernel_rfl) rfl ?_
    refine GL.run (j := 8) 2 [10] [(10, .bool (decide ((climbV l g z m) = r)))] (by kernel_rfl) rfl ?_
    refine GL.k rfl hK24 (fun _ _ h => h) ?_
    refine G.ret ?_
    intro F_ hF_ hM_
    refine hRet _ _ (bodyPost_1 rfl (RV.tmp rfl) ?_ F_ hF_ hM_)
    have e0 : checkB l r g z m = (decide ((climbV l g z m) = r)) := by unfold checkB; rw [Bool.eq_iff_iff]; simp only [decide_eq_true_eq]; exact ⟨fun h => h.2, fun h => ⟨by omega, h⟩⟩
    rw [e0]
    exact ⟨rfl, H22.sub (List.nil_sublist _)⟩
end Go.Proofs.Ytgmggjnoegelgaa
namespace Go.Proofs.Ytgmggjnoegelgaa
open Go.RowKit
def unlR : List (List UInt8) → Bool
  | a :: b :: t => !(decide (a = b)) && unlR t
  | _ => true
theorem unlR_iff : ∀ l : List (List UInt8), unlR l = true ↔ ∀ q, 2 * q + 1 < l.length → l.getD (2 * q) [] ≠ l.getD (2 * q + 1) []
  | [] => ⟨fun _ q h => absurd h (by simp), fun _ => rfl⟩
  | [a] => ⟨fun _ q h => absurd h (by simp), fun _ => rfl⟩
  | a :: b :: t => by
    rw [unlR, Bool.and_eq_true, unlR_iff t, Bool.not_eq_true', decide_eq_false_iff_not]
    constructor
    · rintro ⟨h1, h2⟩ q hq
      cases q with
      | zero => exact h1
      | succ q => exact h2 q (by rw [List.length_cons, List.length_cons] at hq; omega)
    · intro h
      refine ⟨h 0 (by rw [List.length_cons, List.length_cons]; omega), fun q hq => h (q + 1) (by rw [List.length_cons, List.length_cons]; omega)⟩
def unlF : Nat → List (List UInt8) → Bool
  | 0, _ => true
  | f + 1, l => if l.length ≤ 1 then true else unlR l && unlF f (upH l)
theorem unlF_more : ∀ (f : Nat) (l : List (List UInt8)), l.length ≤ f + 1 → unlF f l = unlF (f + 1) l
  | 0, l, h => by rw [unlF, unlF, if_pos (by omega)]
  | f + 1, l, h => by
    rw [unlF, unlF]
    split
    · rfl
    · rw [unlF_more f (upH l) (by rw [upH_length]; omega)]
theorem unlF_stable {l : List (List UInt8)} : ∀ (d f : Nat), l.length ≤ f + 1 → unlF (f + d) l = unlF f l
  | 0, _, _ => rfl
  | d + 1, f, h => by rw [← Nat.add_assoc, ← unlF_more (f + d) l (by omega), unlF_stable d f h]
def unlH (l : List (List UInt8)) : Bool := unlF l.length l
theorem unlH_one {l : List (List UInt8)} (h : l.length ≤ 1) : unlH l = true := by
  unfold unlH
  cases hf : l.length with
  | zero => rfl
  | succ f => rw [unlF, if_pos h]
theorem unlH_step {l : List (List UInt8)} (h : 1 < l.length) : unlH l = (unlR l && unlH (upH l)) := by
  unfold unlH
  obtain ⟨f, hf⟩ : ∃ f, l.length = f + 1 := ⟨l.length - 1, by omega⟩
  have hu := upH_length l
  obtain ⟨d, hd⟩ : ∃ d, f = (upH l).length + d := ⟨f - (upH l).length, by omega⟩
  rw [hf, unlF, if_neg (by omega), hd, unlF_stable d _ (by omega)]
theorem turnH_up {l : List (List UInt8)} {i : Nat} (h : i < l.length) : turnH (l.getD i []) (l.getD (sib i l.length) []) i = (upH l).getD (i / 2) [] := by
  have e : (upH l).getD (i / 2) [] = bothH (l.getD (2 * (i / 2)) []) (l.getD (if 2 * (i / 2) + 1 < l.length then 2 * (i / 2) + 1 else 2 * (i / 2)) []) := by
    rw [List.getD_eq_getElem?_getD, upH_get l (i / 2) (by omega)]
    rfl
  rw [e]
  unfold turnH
  by_cases hi : i % 2 = 1
  · rw [if_pos hi, show sib i l.length = 2 * (i / 2) by unfold sib; rw [if_pos hi]; omega, if_pos (by omega), show 2 * (i / 2) + 1 = i by omega]
  · rw [if_neg hi]
    by_cases h2 : 2 * (i / 2) + 1 < l.length
    · rw [if_pos h2, show sib i l.length = 2 * (i / 2) + 1 by unfold sib; rw [if_neg hi]; omega, show 2 * (i / 2) = i by omega]
    · rw [if_neg h2, show sib i l.length = 2 * (i / 2) by unfold sib; rw [if_neg hi]; omega, show 2 * (i / 2) = i by omega]
theorem alone_way {l : List (List UInt8)} {i : Nat} (h : i < l.length) (hu : unlR l = true) : aloneB i l.length = decide (l.getD (sib i l.length) [] = l.getD i []) := by
  unfold aloneB
  rw [Bool.eq_iff_iff, decide_eq_true_eq, decide_eq_true_eq]
  constructor
  · rintro ⟨h1, h2⟩
    rw [show sib i l.length = i by unfold sib; rw [if_neg (by omega)]; omega]
  · intro he
    have hu := (unlR_iff l).1 hu (i / 2)
    by_cases hi : i % 2 = 1
    · rw [show sib i l.length = 2 * (i / 2) by unfold sib; rw [if_pos hi]; omega] at he
      exact absurd (he.trans (by rw [show 2 * (i / 2) + 1 = i by omega])) (hu (by omega))
    · by_cases h2 : 2 * (i / 2) + 1 < l.length
      · rw [show sib i l.length = 2 * (i / 2) + 1 by unfold sib; rw [if_neg hi]; omega] at he
        exact absurd (he.trans (by rw [show 2 * (i / 2) = i by omega])).symm (hu h2)
      · omega
theorem climb_way : ∀ (m : Nat) (l : List (List UInt8)) (i : Nat), l.length ≤ m → i < l.length → unlH l = true → climbR (wayH l i) (l.getD i []) i l.length = (rootH l, true)
  | 0, l, i, h, hi, _ => absurd hi (by omega)
  | m + 1, l, i, h, hi, hu => by
    by_cases h1 : l.length ≤ 1
    · rw [wayH_one h1, rootH_one h1, show l.length = 1 by omega, climbR_one, show i = 0 by omega]
      rfl
    · rw [unlH_step (by omega), Bool.and_eq_true] at hu
      have e := climb_way m (upH l) (i / 2) (by rw [upH_length]; omega) (by rw [upH_length]; omega) hu.2
      rw [wayH_step (by omega), rootH_step (by omega), climbR, if_neg (by omega), if_pos (alone_way hi hu.1), turnH_up hi, ← upH_length l]
      exact e
theorem upH_more : ∀ (l : List (List UInt8)) (x : List UInt8), l.length % 2 = 1 → l.getD (l.length - 1) [] = x → upH (l ++ [x]) = upH l
  | [], x, h, _ => absurd h (by simp)
  | [a], x, _, e => by
    obtain rfl : a = x := e
    rfl
  | a :: b :: t, x, h, e => by
    rw [List.length_cons, List.length_cons] at h
    have ht : 0 < t.length := by omega
    have e2 : t.getD (t.length - 1) [] = x := by
      rw [← e, List.length_cons, List.length_cons, show t.length + 1 + 1 - 1 = (t.length - 1) + 2 by omega]
      rfl
    show bothH a b :: upH (t ++ [x]) = bothH a b :: upH t
    rw [upH_more t x (by omega) e2]
theorem check_is {l : List (List UInt8)} {r g : List UInt8} {i n : Nat} (hlf : leafB (n : Int) = true) (hin : i < n) : checkB l r g (i : Int) (n : Int) = decide (climbR l g i n = (r, true)) := by
  have e : climbE l g (i : Int) (n : Int) = if (climbR l g i n).2 = true then 0 else 14 := by
    unfold climbE
    rw [if_pos ⟨hlf, by omega, by omega⟩, Int.toNat_natCast, Int.toNat_natCast]
  unfold checkB
  rw [Bool.eq_iff_iff, decide_eq_true_eq, decide_eq_true_eq]
  constructor
  · rintro ⟨h1, h2⟩
    have h3 : (climbR l g i n).2 = true := by
      rw [e] at h1
      split at h1
      · assumption
      · omega
    unfold climbV at h2
    rw [if_pos h1, Int.toNat_natCast, Int.toNat_natCast] at h2
    exact Prod.ext h2 h3
  · intro h
    have h1 : climbE l g (i : Int) (n : Int) = 0 := by rw [e, h]; rfl
    refine ⟨h1, ?_⟩
    unfold climbV
    rw [if_pos h1, Int.toNat_natCast, Int.toNat_natCast, h]
theorem Unlike_calls (A : Option Addr) (c : Nat) (l : List (List UInt8)) (w : World) (hx : RdS w A (by8 (flat8 l))) (hok : ok32 l) (hc : l.length ≤ c) (hl : l.length ≤ 65536) : Calls Try.prog 16 #[.slice A l.length c] w fun e w' => e = .returned (.bool (unlH l)) ∧ Hp w [] [] w' := by
  refine calls_G (args := [.slice A l.length c]) Try.func16 rfl Try.ntmps16 rfl ?_
  intro Q0 hRet hNor hPan
  have H := Hp.start w
  have H : Hp w [] [] w := H
  refine G.seqK fun K1 hK2 => ?_
  refine G.region ?_
  refine GL.run (j := 1) 1 [0] [(0, .slice A l.length c)] (by kernel_rfl) rfl ?_
  refine GL.k rfl hK2 (fun _ _ h => h) ?_
  refine G.seqK fun K3 hK4 => ?_
  refine G.block ?_
  refine G.fit [0] (M' := [(0, .slice A l.length c)]) (by kernel_rfl) ?_
  refine G.loop (X := List (List UInt8) × Option Addr × Nat) (fun ⟨L, A_, c_⟩ => [(0, .slice A_ L.length c_)]) (fun ⟨L, A_, c_⟩ w_ => (unlH L = unlH l ∧ ok32 L ∧ L.length ≤ 65536 ∧ L.length ≤ c_ ∧ RdS w_ A_ (by8 (flat8 L))) ∧ Hp w [] [] w_) (fun ⟨L, A_, c_⟩ => L.length) ⟨l, A, c⟩ [0] (by kernel_rfl) ⟨⟨rfl, hok, hl, hc, hx.hp H⟩, H⟩ ?_
  rintro ⟨L, A_, c_⟩ w5 ⟨hi6, H7⟩
  refine G.eq (M' := [(0, .slice A_ L.length c_)]) rfl ?_
  have H7 : Hp w [] [] w5 := H7
  obtain ⟨hunl, hokL, h16, hcL, hrd⟩ := hi6
  have H8 := Hp.start w5
  have H8 : Hp w5 [] [] w5 := H8
  refine G.seqK fun K9 hK10 => ?_
  refine G.seqK fun K11 hK12 => ?_
  refine G.region ?_
  refine GL.run (j := 3) 3 [0, 6] [(0, .slice A_ L.length c_), (6, .bool (decide (1 < (L.length : Int))))] (by kernel_rfl) rfl ?_
  refine GL.k rfl hK12 (fun _ _ h => h) ?_
  cases hb13 : (decide (1 < (L.length : Int)))
  · skip
    have hb13f := of_decide_eq_false hb13
    refine G.no rfl ?_
    refine G.exitK hK4 (fun _ _ h => h) ?_
    refine G.seqK fun K14 hK15 => ?_
    refine G.region ?_
    refine GL.run (j := 1) 1 [2] [(2, .bool true)] (by kernel_rfl) rfl ?_
    refine GL.k rfl hK15 (fun _ _ h => h) ?_
    refine G.ret ?_
    intro F_ hF_ hM_
    refine hRet _ _ (bodyPost_1 rfl (RV.tmp rfl) ?_ F_ hF_ hM_)
    have e0 : unlH l = true := by rw [← hunl]; exact unlH_one (by omega)
    rw [e0]
    exact ⟨rfl, H7.callNil (H8.sub (List.nil_sublist _))⟩
  · skip
    have hb13f := of_decide_eq_true hb13
    refine G.yes rfl ?_
    refine G.skipK hK10 (fun _ _ h => h) ?_
    refine G.block ?_
    refine G.seqK fun K16 hK17 => ?_
    refine G.seqK fun K18 hK19 => ?_
    refine G.region ?_
    refine GL.run (j := 1) 1 [0, 3] [(0, .slice A_ L.length c_), (3, .int .i64 0)] (by kernel_rfl) rfl ?_
    refine GL.k rfl hK19 (fun _ _ h => h) ?_
    refine G.block ?_
    refine G.fit [0, 3] (M' := [(0, .slice A_ L.length c_), (3, .int .i64 0)]) (by kernel_rfl) ?_
    refine G.eq (M' := [(0, .slice A_ L.length c_), (3, .int .i64 (((2 * 0) : Nat) : Int))]) (by rfl) ?_
    refine G.loop (X := Nat) (fun k => [(0, .slice A_ L.length c_), (3, .int .i64 (((2 * k) : Nat) : Int))]) (fun k w_ => (2 * k ≤ L.length + 1 ∧ ∀ q, q < k → 2 * q + 1 < L.length → L.getD (2 * q) [] ≠ L.getD (2 * q + 1) []) ∧ Hp w5 [] [] w_) (fun k => L.length + 1 - k) 0 [0, 3] (by kernel_rfl) ⟨⟨by omega, fun q hq => absurd hq (Nat.not_lt_zero q)⟩, H8⟩ ?_
    rintro k w20 ⟨hi21, H22⟩
    refine G.eq (M' := [(0, .slice A_ L.length c_), (3, .int .i64 (((2 * k) : Nat) : Int))]) rfl ?_
    have H22 : Hp w5 [] [] w20 := H22
    obtain ⟨hk2, hin⟩ := hi21
    refine G.seqK fun K23 hK24 => ?_
    refine G.seqK fun K25 hK26 => ?_
    refine G.region ?_
    refine GL.run (j := 5) 5 [0, 3, 11] [(0, .slice A_ L.length c_), (3, .int .i64 (((2 * k) : Nat) : Int)), (11, .bool (decide ((IntKind.i64.wrap ((((2 * k) : Nat) : Int) + 1)) < (L.length : Int))))] (by kernel_rfl) rfl ?_
    have e27 : (IntKind.i64.wrap ((((2 * k) : Nat) : Int) + 1)) = (((2 * k) + 1 : Nat) : Int) := by rw [in_i64 (by omega)]; omega
    refine GL.eq (M' := [(0, .slice A_ L.length c_), (3, .int .i64 (((2 * k) : Nat) : Int)), (11, .bool (decide ((((2 * k) + 1 : Nat) : Int) < (L.length : Int))))]) (by rw [e27]) ?_
    clear e27
    refine GL.k rfl hK26 (fun _ _ h => h) ?_
    cases hb28 : (decide ((((2 * k) + 1 : Nat) : Int) < (L.length : Int)))
    · skip
      have hb28f := of_decide_eq_false hb28
      have hur : unlR L = true := (unlR_iff L).2 (fun q hq => hin q (by omega) hq)
      refine G.no rfl ?_
      refine G.exitK hK17 (fun _ _ h => h) ?_
      refine G.region ?_
      refine GL.run (j := 1) 1 [24] [(24, .slice A_ L.length c_)] (by kernel_rfl) rfl ?_
      refine GL.call (j := 2) (RefUp_calls A_ c_ L w20 (hrd.hp H22) hokL hcL h16) (by kernel_rfl) rfl (fun e_ w31 hR => ?_)
      obtain ⟨A29, c30, rfl, H33⟩ := hR
      have H32 : Hp w5 [] [.row A29 ((upH L).length) c30 24 32 (by8 (flat8 (upH L)))] w31 := H22.callNew H33
      refine ⟨_, rfl, [25], [(25, .slice A29 ((upH L).length) c30)], by kernel_rfl, ?_⟩
      refine GL.run (j := 3) 1 [0] [(0, .slice A29 ((upH L).length) c30)] (by kernel_rfl) rfl ?_
      have hr34 := H32.rdRowN 0 rfl
      have hq35 := (H32.rowLe 0 rfl).1
      have hul := upH_length L
      have H36 := H7.callNil (H32.sub (List.nil_sublist _))
      exact GL.againB ⟨(upH L), A29, c30⟩ [0] rfl (by kernel_rfl) (by show (upH L).length < L.length; omega) ⟨⟨by rw [← hunl, unlH_step (l := L) (by omega), hur, Bool.true_and], ok32_upH L, by omega, hq35, hr34⟩, H36⟩
    · skip
      have hb28f := of_decide_eq_true hb28
      refine G.yes rfl ?_
      refine G.skipK hK24 (fun _ _ h => h) ?_
      refine G.seqK fun K37 hK38 => ?_
      refine G.block ?_
      refine G.seqK fun K39 hK40 => ?_
      refine G.draw H22 (by kernel_rfl) (by kernel_rfl) ?_
      refine GQ.run (j := 2) 2 [0, 3, 14, 15] [(0, .slice A_ L.length c_), (3, .int .i64 (((2 * k) : Nat) : Int)), (14, .slice A_ L.length c_), (15, .int .i64 (((2 * k) : Nat) : Int))] (by kernel_rfl) rfl ?_
      refine GQ.sem (j := 3) (fun w_ H_ => run_idxRdN (P := Try.prog) (k := .i64) (t := 33) (sz := 32) (A := A_) (len := L.length) (cap := c_) (j := (2 * k)) (by kernel_rfl) rfl (hrd.hp H_) (by rw [by8_length]; exact flat8_length hokL) (by decide) (by omega)) [0, 3, 16] [(0, .slice A_ L.length c_), (3, .int .i64 (((2 * k) : Nat) : Int)), (16, .pointer (Option.map (fun x => Addr.add x ((2 * k) * 32)) A_))] (by kernel_rfl) (by kernel_rfl) rfl ?_
      refine GQ.sem (j := 4) (fun w_ H_ => run_ldRdA (P := Try.prog) (ty := 24) (m := 32) (o := ((2 * k) * 32)) (A := A_) (sub := by8 (L.getD (2 * k) [])) (by kernel_rfl) (hrd.hp H_) (flat8_sub hokL (by omega)) (by rw [by8_length, ok32_at hokL (by omega)]) (by decide)) [0, 3, 17] [(0, .slice A_ L.length c_), (3, .int .i64 (((2 * k) : Nat) : Int)), (17, .agg (by8 (L.getD (2 * k) [])).toArray)] (by kernel_rfl) (by kernel_rfl) rfl ?_
      refine GQ.run (j := 7) 3 [0, 3, 17, 18, 20] [(0, .slice A_ L.length c_), (3, .int .i64 (((2 * k) : Nat) : Int)), (17, .agg (by8 (L.getD (2 * k) [])).toArray), (18, .slice A_ L.length c_), (20, .int .i64 (IntKind.i64.wrap ((((2 * k) : Nat) : Int) + 1)))] (by kernel_rfl) rfl ?_
      have e41 : (IntKind.i64.wrap ((((2 * k) : Nat) : Int) + 1)) = (((2 * k) + 1 : Nat) : Int) := by rw [in_i64 (by omega)]; omega
      refine GQ.eq (M' := [(0, .slice A_ L.length c_), (3, .int .i64 (((2 * k) : Nat) : Int)), (17, .agg (by8 (L.getD (2 * k) [])).toArray), (18, .slice A_ L.length c_), (20, .int .i64 (((2 * k) + 1 : Nat) : Int))]) (by rw [e41]) ?_
      clear e41
      refine GQ.sem (j := 8) (fun w_ H_ => run_idxRdN (P := Try.prog) (k := .i64) (t := 33) (sz := 32) (A := A_) (len := L.length) (cap := c_) (j := (2 * k) + 1) (by kernel_rfl) rfl (hrd.hp H_) (by rw [by8_length]; exact flat8_length hokL) (by decide) (by omega)) [0, 3, 17, 21] [(0, .slice A_ L.length c_), (3, .int .i64 (((2 * k) : Nat) : Int)), (17, .agg (by8 (L.getD (2 * k) [])).toArray), (21, .pointer (Option.map (fun x => Addr.add x (((2 * k) + 1) * 32)) A_))] (by kernel_rfl) (by kernel_rfl) rfl ?_
      refine GQ.sem (j := 9) (fun w_ H_ => run_ldRdA (P := Try.prog) (ty := 24) (m := 32) (o := (((2 * k) + 1) * 32)) (A := A_) (sub := by8 (L.getD ((2 * k) + 1) [])) (by kernel_rfl) (hrd.hp H_) (flat8_sub hokL (by omega)) (by rw [by8_length, ok32_at hokL (by omega)]) (by decide)) [0, 3, 17, 22] [(0, .slice A_ L.length c_), (3, .int .i64 (((2 * k) : Nat) : Int)), (17, .agg (by8 (L.getD (2 * k) [])).toArray), (22, .agg (by8 (L.getD ((2 * k) + 1) [])).toArray)] (by kernel_rfl) (by kernel_rfl) rfl ?_
      refine GQ.sem (j := 10) (fun w_ H_ => run_by8_eql (P := Try.prog) (t := 24) (n := 32) (x := (.tmp 17)) (y := (.tmp 22)) (by kernel_rfl) (L.getD (2 * k) []) (L.getD ((2 * k) + 1) []) (by rw [ok32_at hokL (by omega)]) (by rw [ok32_at hokL (by omega)]) _) [0, 3, 23] [(0, .slice A_ L.length c_), (3, .int .i64 (((2 * k) : Nat) : Int)), (23, .bool (decide ((L.getD (2 * k) []) = (L.getD ((2 * k) + 1) []))))] (by kernel_rfl) (by kernel_rfl) rfl ?_
      refine GQ.k rfl hK40 (fun _ _ h => h) (fun w42 H43 => ?_)
      cases hb44 : (decide ((L.getD (2 * k) []) = (L.getD ((2 * k) + 1) [])))
      · skip
        have hb44f := of_decide_eq_false hb44
        have hne : L.getD (2 * k) [] ≠ L.getD (2 * k + 1) [] := of_decide_eq_false hb44
        refine G.no rfl ?_
        refine G.skipK hK38 (fun _ _ h => h) ?_
        refine G.region ?_
        refine GL.run (j := 3) 3 [0, 3] [(0, .slice A_ L.length c_), (3, .int .i64 (IntKind.i64.wrap ((((2 * k) : Nat) : Int) + 2)))] (by kernel_rfl) rfl ?_
        have e45 : (IntKind.i64.wrap ((((2 * k) : Nat) : Int) + 2)) = (((2 * k) + 2 : Nat) : Int) := by rw [in_i64 (by omega)]; omega
        refine GL.eq (M' := [(0, .slice A_ L.length c_), (3, .int .i64 (((2 * k) + 2 : Nat) : Int))]) (by rw [e45]) ?_
        clear e45
        have hin2 : ∀ q, q < k + 1 → 2 * q + 1 < L.length → L.getD (2 * q) [] ≠ L.getD (2 * q + 1) [] := by
          intro q hq h2
          rcases Nat.lt_or_ge q k with h | h
          · exact hin q h h2
          · obtain rfl : q = k := by omega
            exact hne
        refine GL.fit (ts := [0, 3]) (M' := [(0, .slice A_ L.length c_), (3, .int .i64 (((2 * k) + 2 : Nat) : Int))]) (by kernel_rfl) ?_
        refine GL.eq (M' := [(0, .slice A_ L.length c_), (3, .int .i64 (((2 * (k + 1)) : Nat) : Int))]) (by rw [show 2 * k + 2 = 2 * (k + 1) by omega]) ?_
        exact GL.again (k + 1) [0, 3] rfl (by kernel_rfl) (by show L.length + 1 - (k + 1) < L.length + 1 - k; omega) ⟨⟨by omega, hin2⟩, H43⟩
      · skip
        have hb44f := of_decide_eq_true hb44
        have hne : L.getD (2 * k) [] = L.getD (2 * k + 1) [] := of_decide_eq_true hb44
        refine G.yes rfl ?_
        refine G.seqK fun K46 hK47 => ?_
        refine G.region ?_
        refine GL.run (j := 1) 1 [2] [(2, .bool false)] (by kernel_rfl) rfl ?_
        refine GL.k rfl hK47 (fun _ _ h => h) ?_
        refine G.ret ?_
        intro F_ hF_ hM_
        refine hRet _ _ (bodyPost_1 rfl (RV.tmp rfl) ?_ F_ hF_ hM_)
        have e0 : unlH l = false := by
          rw [← hunl, unlH_step (by omega)]
          cases hu_ : unlR L with
          | false => rfl
          | true => exact absurd hne ((unlR_iff L).1 hu_ k (by omega))
        rw [e0]
        exact ⟨rfl, H7.callNil (H43.sub (List.nil_sublist _))⟩
end Go.Proofs.Ytgmggjnoegelgaa
namespace Go.Proofs.Ytgmggjnoegelgaa
open Go.RowKit
def moreH (l : List (List UInt8)) : List (List UInt8) := l ++ [l.getD (l.length - 1) []]
theorem moreH_length (l : List (List UInt8)) : (moreH l).length = l.length + 1 := by simp [moreH]
theorem ok32_moreH {l : List (List UInt8)} (h : ok32 l) (h0 : l.length ≠ 0) : ok32 (moreH l) := ok32_snoc h (ok32_at h (by omega))
theorem flat8_moreH (l : List (List UInt8)) : flat8 (moreH l) = (flat8 []) ++ (flat8 l) ++ l.getD (l.length - 1) [] := by
  rw [moreH, flat8_snoc]
  rfl
theorem rootH_moreH {l : List (List UInt8)} (h : l.length % 2 = 1) (h1 : 1 < l.length) : rootH (moreH l) = rootH l := by
  rw [rootH_step (l := moreH l) (by rw [moreH_length]; omega), rootH_step h1, moreH, upH_more l _ h rfl]
theorem moreH_at {l : List (List UInt8)} {q : Nat} (h : q + 1 = l.length ∨ q = l.length) : (moreH l).getD q [] = l.getD (l.length - 1) [] := by
  unfold moreH
  rcases h with h | h
  · rw [List.getD_eq_getElem?_getD, List.getElem?_append_left (by omega), ← List.getD_eq_getElem?_getD, show l.length - 1 = q by omega]
  · rw [List.getD_eq_getElem?_getD, List.getElem?_append_right (by omega), h, Nat.sub_self]
    rfl
theorem twice_climb {l : List (List UInt8)} {i : Nat} (h : l.length % 2 = 1) (hi : i + 1 = l.length ∨ i = l.length) : climbR (wayH (moreH l) i) ((moreH l).getD i []) i (moreH l).length = (List.replicate 32 0, false) := by
  have hm := moreH_length l
  have ha : aloneB i (moreH l).length = false := by
    unfold aloneB
    exact decide_eq_false (fun h => by omega)
  have hs : sib i (moreH l).length + 1 = l.length ∨ sib i (moreH l).length = l.length := by unfold sib; split <;> omega
  rw [wayH_step (by omega), climbR, if_neg (by omega), if_neg (by rw [ha, moreH_at hs, moreH_at hi]; simp)]
theorem MerkleDefends_calls (A : Option Addr) (c : Nat) (l : List (List UInt8)) (w : World) (hx : RdS w A (by8 (flat8 l))) (hok : ok32 l) (hc : l.length ≤ c) : Calls Try.prog 4 #[.slice A l.length c] w fun e w' => e = .returned (.bool true) ∧ Hp w [] [] w' := by
  refine calls_G (args := [.slice A l.length c]) Try.func4 rfl Try.ntmps4 rfl ?_
  intro Q0 hRet hNor hPan
  have H := Hp.start w
  have H : Hp w [] [] w := H
  refine G.seqK fun K1 hK2 => ?_
  refine G.region ?_
  refine GL.run (j := 1) 1 [0] [(0, .slice A l.length c)] (by kernel_rfl) rfl ?_
  refine GL.k rfl hK2 (fun _ _ h => h) ?_
  refine G.seqK fun K3 hK4 => ?_
  refine G.seqK fun K5 hK6 => ?_
  refine G.region ?_
  refine GL.call (j := 1) (lives_calls w) (by kernel_rfl) rfl (fun e_ w7 hR => ?_)
  obtain ⟨rfl, H9⟩ := hR
  have H8 : Hp w [] [] w7 := H.callNil H9
  refine ⟨_, rfl, [0, 13], [(0, .slice A l.length c), (13, .bool true)], by kernel_rfl, ?_⟩
  refine GL.run (j := 8) 7 [0, 20] [(0, .slice A l.length c), (20, .bool (decide ((l.length : Int) < 2)))] (by kernel_rfl) rfl ?_
  cases hb10 : (decide ((l.length : Int) < 2))
  · skip
    have hb10f := of_decide_eq_false hb10
    refine GL.run (j := 13) 5 [0, 25] [(0, .slice A l.length c), (25, .bool (decide (12 < (l.length : Int))))] (by kernel_rfl) rfl ?_
    cases hb11 : (decide (12 < (l.length : Int)))
    · skip
      have hb11f := of_decide_eq_false hb11
      refine GL.run (j := 19) 6 [0, 31] [(0, .slice A l.length c), (31, .bool ((Int.tmod (l.length : Int) 2) == 0))] (by kernel_rfl) rfl ?_
      have e12 : (Int.tmod (l.length : Int) 2) = (((l.length % 2) : Nat) : Int) := n_rem _ 2
      refine GL.eq (M' := [(0, .slice A l.length c), (31, .bool ((((l.length % 2) : Nat) : Int) == 0))]) (by rw [e12]) ?_
      clear e12
      cases hb13 : ((((l.length % 2) : Nat) : Int) == 0)
      · skip
        have hb13f := ne_of_beq_false hb13
        refine GL.run (j := 20) 1 [0, 31, 32] [(0, .slice A l.length c), (31, .bool false), (32, .slice A l.length c)] (by kernel_rfl) rfl ?_
        refine GL.call (j := 21) (Plain_calls A c l w7 (hx.hp H8) hok (by omega) (by omega)) (by kernel_rfl) rfl (fun e_ w16 hR => ?_)
        obtain ⟨A14, c15, rfl, H18⟩ := hR
        have H17 : Hp w [] [.row A14 l.length c15 24 32 (by8 (flat8 l))] w16 := H8.callNew H18
        have hq19 := (H17.rowLe 0 rfl).1
        refine ⟨_, rfl, [0, 31, 33], [(0, .slice A l.length c), (31, .bool false), (33, .slice A14 l.length c15)], by kernel_rfl, ?_⟩
        refine GL.call (j := 22) (Unlike_calls A14 c15 l w16 (H17.rdRowN 0 rfl) hok ((H17.rowLe 0 rfl).1) (by omega)) (by kernel_rfl) rfl (fun e_ w20 hR => ?_)
        obtain ⟨rfl, H22⟩ := hR
        have H21 : Hp w [] [.row A14 l.length c15 24 32 (by8 (flat8 l))] w20 := H17.callNil H22
        refine ⟨_, rfl, [0, 31, 34], [(0, .slice A l.length c), (31, .bool false), (34, .bool (unlH l))], by kernel_rfl, ?_⟩
        refine GL.run (j := 24) 2 [0, 36] [(0, .slice A l.length c), (36, .bool (!(unlH l)))] (by kernel_rfl) rfl ?_
        refine GL.k rfl hK6 (fun _ _ h => h) ?_
        cases hb23 : (unlH l)
        · skip
          refine G.yes rfl ?_
          refine G.seqK fun K24 hK25 => ?_
          refine G.region ?_
          refine GL.call (j := 1) (lives_calls w20) (by kernel_rfl) rfl (fun e_ w26 hR => ?_)
          obtain ⟨rfl, H28⟩ := hR
          have H27 : Hp w [] [.row A14 l.length c15 24 32 (by8 (flat8 l))] w26 := H21.callNil H28
          refine ⟨_, rfl, [37], [(37, .bool true)], by kernel_rfl, ?_⟩
          refine GL.run (j := 2) 1 [2] [(2, .bool true)] (by kernel_rfl) rfl ?_
          refine GL.k rfl hK25 (fun _ _ h => h) ?_
          refine G.ret ?_
          intro F_ hF_ hM_
          refine hRet _ _ (bodyPost_1 rfl (RV.tmp rfl) ?_ F_ hF_ hM_)
          exact ⟨rfl, H27.sub (List.nil_sublist _)⟩
        · skip
          have hui : unlH l = true := hb23
          have hlf : leafB (l.length : Int) = true := by unfold leafB; exact decide_eq_true (by omega)
          have hce : chkE (l.length : Int) = 0 := by unfold chkE; rw [if_neg (by omega), if_pos hlf]
          have hml := moreH_length l
          have hlf2 : leafB ((moreH l).length : Int) = true := by unfold leafB; exact decide_eq_true (by omega)
          have hce2 : chkE ((moreH l).length : Int) = 0 := by unfold chkE; rw [if_neg (by omega), if_pos hlf2]
          have hrv : rootV l = rootH l := by unfold rootV; rw [if_pos (show rootE l = 0 from hce)]
          have hrv2 : rootV (moreH l) = rootH (moreH l) := by unfold rootV; rw [if_pos (show rootE (moreH l) = 0 from hce2)]
          have hwe : wayE l ((l.length - 1 : Nat) : Int) = 0 := by unfold wayE; rw [if_pos hce, if_pos (by omega)]
          have hwv : wayV l ((l.length - 1 : Nat) : Int) = wayH l (l.length - 1) := by unfold wayV; rw [if_pos hwe]; simp
          have hcw := climb_way l.length l (l.length - 1) (Nat.le_refl _) (by omega) hui
          refine G.no rfl ?_
          refine G.skipK hK4 (fun _ _ h => h) ?_
          refine G.seqK fun K29 hK30 => ?_
          refine G.heldP (Hp w [] [.row A14 l.length c15 24 32 (by8 (flat8 l))]) (by kernel_rfl) (by kernel_rfl) (fun c_ a_ d_ v_ w_ h_ => hPan c_ a_ d_ v_ w_ h_) ?_
          have H31 := H21.drew
          generalize ({ w20 with drawn := w20.drawn + 1 } : World) = w32 at H31 ⊢
          have hS33 : Hp w [] [.row A14 l.length c15 24 32 (by8 (flat8 l))] w32 := H31.sub (List.Sublist.cons_cons _ (List.Sublist.slnil))
          refine GP.run [1, 3, 4, 5, 6] [0, 39, 41, 44] [(0, .slice A l.length c), (39, .slice A l.length c), (41, .slice A l.length c), (44, .int .i64 (IntKind.i64.wrap ((l.length : Int) - 1)))] [1, 3, 4, 5, 6] (by kernel_rfl) rfl hS33 ?_
          have e34 : (IntKind.i64.wrap ((l.length : Int) - 1)) = (((l.length - 1) : Nat) : Int) := by rw [in_i64 (by omega)]; omega
          refine GP.eq (M' := [(0, .slice A l.length c), (39, .slice A l.length c), (41, .slice A l.length c), (44, .int .i64 (((l.length - 1) : Nat) : Int))]) (by rw [e34]) ?_
          clear e34
          refine GP.sem 7 (fun w_ H_ => run_idxRdN (P := Try.prog) (k := .i64) (t := 22) (sz := 32) (A := A) (len := l.length) (cap := c) (j := (l.length - 1)) (by kernel_rfl) rfl (hx.hp H_) (by rw [by8_length]; exact flat8_length hok) (by decide) (by omega)) [0, 39, 45] [(0, .slice A l.length c), (39, .slice A l.length c), (45, .pointer (Option.map (fun x => Addr.add x ((l.length - 1) * 32)) A))] (by kernel_rfl) (by kernel_rfl) (by kernel_rfl) hS33 ?_
          refine GP.sem 8 (fun w_ H_ => run_ldRdA (P := Try.prog) (ty := 25) (m := 32) (o := ((l.length - 1) * 32)) (A := A) (sub := by8 (l.getD (l.length - 1) [])) (by kernel_rfl) (hx.hp H_) (flat8_sub hok (by omega)) (by rw [by8_length, ok32_at hok (by omega)]) (by decide)) [0, 39, 46] [(0, .slice A l.length c), (39, .slice A l.length c), (46, .agg (by8 (l.getD (l.length - 1) [])).toArray)] (by kernel_rfl) (by kernel_rfl) (by kernel_rfl) hS33 ?_
          refine GP.named fun Xd_ hXd_ => ?_
          have st77 : ∀ (wD_ : World) (p35 : Nat) (A45 : Option Addr) (c46 : Nat) (p61 : Nat), Hp w [] [.row A14 l.length c15 24 32 (by8 (flat8 l)), .row A45 l.length c46 25 32 (by8 ((flat8 []) ++ (flat8 l))), .row (some ⟨p61, 0, none⟩) 1 1 25 32 (by8 (l.getD (l.length - 1) []))] wD_ → Xd_ [1, 3, 4, 5, 6, 7, 8, 0, 2, 9] [(0, .slice A l.length c), (40, .slice A45 l.length c46), (47, .slice (some ⟨p61, 0, none⟩) 1 1)] wD_ := by
            intro wD_ p35 A45 c46 p61 HD_
            rw [hXd_]
            have hS78 : Hp w [] [.row A14 l.length c15 24 32 (by8 (flat8 l))] wD_ := HD_.sub (List.Sublist.cons_cons _ (List.Sublist.cons _ (List.Sublist.cons _ (List.Sublist.slnil))))
            obtain ⟨A79, c80, w81, r82, H83⟩ := HD_.append (P := Try.prog) (e := 25) (sz := 32) (by_ := 32) (n := l.length) (c := c46) (m := 1) (d := 1) (t := 22) (ty := 22) (xs := by8 ((flat8 []) ++ (flat8 l))) (news := by8 (l.getD (l.length - 1) [])) 1 rfl (by kernel_rfl) (HD_.rdRowN 2 rfl) (by rw [by8_length, ok32_at hok (by omega)]) (by8_one _) (by omega) (by simp only [maxLen]; omega)
            rw [← by8_append] at H83
            have H83 : Hp w [] [.row A14 l.length c15 24 32 (by8 (flat8 l)), .row A79 (l.length + 1) c80 25 32 (by8 (((flat8 []) ++ (flat8 l)) ++ (l.getD (l.length - 1) []))), .row (some ⟨p61, 0, none⟩) 1 1 25 32 (by8 (l.getD (l.length - 1) []))] w81 := H83
            have hS84 : Hp w [] [.row A14 l.length c15 24 32 (by8 (flat8 l))] w81 := H83.sub (List.Sublist.cons_cons _ (List.Sublist.cons _ (List.Sublist.cons _ (List.Sublist.slnil))))
            refine GP.made 10 r82 [0, 48] [(0, .slice A l.length c), (48, .slice A79 (l.length + 1) c80)] (by kernel_rfl) (by kernel_rfl) (by kernel_rfl) hS84 ?_
            refine GP.run [11] [0, 3] [(0, .slice A l.length c), (3, .slice A79 (l.length + 1) c80)] [1, 3, 4, 5, 6, 7, 8, 0, 2, 9, 10, 11] (by kernel_rfl) rfl hS84 ?_
            refine GP.k (by kernel_rfl) hK30 (fun _ _ h => h) ?_
            refine G.seqK fun K85 hK86 => ?_
            have H88 : Hp w [] [.row A79 (l.length + 1) c80 25 32 (by8 (((flat8 []) ++ (flat8 l)) ++ (l.getD (l.length - 1) [])))] w81 := H83.sub (List.Sublist.cons _ (List.Sublist.cons_cons _ (List.Sublist.cons _ (List.Sublist.slnil))))
            have H87 : Hp w [] [.row A79 ((moreH l).length) c80 25 32 (by8 (flat8 (moreH l)))] w81 := by rw [flat8_moreH, hml]; exact H88
            have hq9 := (H87.rowLe 0 rfl).1
            refine G.eq (M' := [(0, .slice A l.length c), (3, .slice A79 ((moreH l).length) c80)]) (by rw [hml]) ?_
            refine G.region ?_
            refine GL.run (j := 1) 1 [0, 3, 50] [(0, .slice A l.length c), (3, .slice A79 ((moreH l).length) c80), (50, .slice A l.length c)] (by kernel_rfl) rfl ?_
            refine GL.call (j := 2) (Root_calls A c l w81 (hx.hp H87) hok (by omega)) (by kernel_rfl) rfl (fun e_ w89 hR => ?_)
            obtain ⟨rfl, H91⟩ := hR
            have H90 : Hp w [] [.row A79 ((moreH l).length) c80 25 32 (by8 (flat8 (moreH l)))] w89 := H87.callNil H91
            refine ⟨_, rfl, [0, 3, 51], [(0, .slice A l.length c), (3, .slice A79 ((moreH l).length) c80), (51, .tuple #[.agg (by8 (rootV l)).toArray, .int .i64 (((rootE l) : Nat) : Int)])], by kernel_rfl, ?_⟩
            refine GL.run (j := 5) 3 [0, 3, 52, 53] [(0, .slice A l.length c), (3, .slice A79 ((moreH l).length) c80), (52, .agg (by8 (rootV l)).toArray), (53, .int .i64 (((rootE l) : Nat) : Int))] (by kernel_rfl) rfl ?_
            obtain ⟨p92, w93, r94, H95⟩ := H90.alloc (P := Try.prog) 25 (by8 (List.replicate 32 0)) (by kernel_rfl)
            have H95 : Hp w [] [.row A79 ((moreH l).length) c80 25 32 (by8 (flat8 (moreH l))), .blk p92 (by8 (List.replicate 32 0)) 25] w93 := H95
            refine GL.sem (j := 6) (r94) [0, 3, 4, 52, 53] [(0, .slice A l.length c), (3, .slice A79 ((moreH l).length) c80), (4, pt p92 0), (52, .agg (by8 (rootV l)).toArray), (53, .int .i64 (((rootE l) : Nat) : Int))] (by kernel_rfl) (by kernel_rfl) rfl ?_
            obtain ⟨w96, r97, H98⟩ := H95.stA (P := Try.prog) (o := 0) (vs := by8 (rootV l)) (ty := 25) (m := 32) 1 rfl (by kernel_rfl) (by rw [by8_length, rootV_length hok]) (Nat.le_of_eq (by rw [Nat.zero_add]; exact ((show (by8 (List.replicate 32 0)).length = 32 from by rw [by8_length]; rfl)).symm)) (by8_one _)
            rw [st_whole (by rw [by8_length]; rfl)] at H98
            have H98 : Hp w [] [.row A79 ((moreH l).length) c80 25 32 (by8 (flat8 (moreH l))), .blk p92 (by8 (rootV l)) 25] w96 := H98
            refine GL.semU (j := 7) r97 [0, 3, 4, 53] [(0, .slice A l.length c), (3, .slice A79 ((moreH l).length) c80), (4, pt p92 0), (53, .int .i64 (((rootE l) : Nat) : Int))] (by kernel_rfl) rfl rfl rfl ?_
            refine GL.run (j := 8) 1 [0, 3, 4, 5] [(0, .slice A l.length c), (3, .slice A79 ((moreH l).length) c80), (4, pt p92 0), (5, .int .i64 (((rootE l) : Nat) : Int))] (by kernel_rfl) rfl ?_
            refine GL.k rfl hK86 (fun _ _ h => h) ?_
            refine G.seqK fun K99 hK100 => ?_
            refine G.region ?_
            refine GL.run (j := 1) 1 [0, 3, 4, 5, 55] [(0, .slice A l.length c), (3, .slice A79 ((moreH l).length) c80), (4, pt p92 0), (5, .int .i64 (((rootE l) : Nat) : Int)), (55, .slice A79 ((moreH l).length) c80)] (by kernel_rfl) rfl ?_
            refine GL.call (j := 2) (Root_calls A79 c80 (moreH l) w96 (H98.rdRowN 0 rfl) (ok32_moreH hok (by omega)) ((H98.rowLe 0 rfl).1)) (by kernel_rfl) rfl (fun e_ w101 hR => ?_)
            obtain ⟨rfl, H103⟩ := hR
            have H102 : Hp w [] [.row A79 ((moreH l).length) c80 25 32 (by8 (flat8 (moreH l))), .blk p92 (by8 (rootV l)) 25] w101 := H98.callNil H103
            refine ⟨_, rfl, [0, 3, 4, 5, 56], [(0, .slice A l.length c), (3, .slice A79 ((moreH l).length) c80), (4, pt p92 0), (5, .int .i64 (((rootE l) : Nat) : Int)), (56, .tuple #[.agg (by8 (rootV (moreH l))).toArray, .int .i64 (((rootE (moreH l)) : Nat) : Int)])], by kernel_rfl, ?_⟩
            refine GL.run (j := 5) 3 [0, 3, 4, 5, 57, 58] [(0, .slice A l.length c), (3, .slice A79 ((moreH l).length) c80), (4, pt p92 0), (5, .int .i64 (((rootE l) : Nat) : Int)), (57, .agg (by8 (rootV (moreH l))).toArray), (58, .int .i64 (((rootE (moreH l)) : Nat) : Int))] (by kernel_rfl) rfl ?_
            obtain ⟨p104, w105, r106, H107⟩ := H102.alloc (P := Try.prog) 25 (by8 (List.replicate 32 0)) (by kernel_rfl)
            have H107 : Hp w [] [.row A79 ((moreH l).length) c80 25 32 (by8 (flat8 (moreH l))), .blk p92 (by8 (rootV l)) 25, .blk p104 (by8 (List.replicate 32 0)) 25] w105 := H107
            refine GL.sem (j := 6) (r106) [0, 3, 4, 5, 6, 57, 58] [(0, .slice A l.length c), (3, .slice A79 ((moreH l).length) c80), (4, pt p92 0), (5, .int .i64 (((rootE l) : Nat) : Int)), (6, pt p104 0), (57, .agg (by8 (rootV (moreH l))).toArray), (58, .int .i64 (((rootE (moreH l)) : Nat) : Int))] (by kernel_rfl) (by kernel_rfl) rfl ?_
            obtain ⟨w108, r109, H110⟩ := H107.stA (P := Try.prog) (o := 0) (vs := by8 (rootV (moreH l))) (ty := 25) (m := 32) 2 rfl (by kernel_rfl) (by rw [by8_length, rootV_length (ok32_moreH hok (by omega))]) (Nat.le_of_eq (by rw [Nat.zero_add]; exact ((show (by8 (List.replicate 32 0)).length = 32 from by rw [by8_length]; rfl)).symm)) (by8_one _)
            rw [st_whole (by rw [by8_length]; rfl)] at H110
            have H110 : Hp w [] [.row A79 ((moreH l).length) c80 25 32 (by8 (flat8 (moreH l))), .blk p92 (by8 (rootV l)) 25, .blk p104 (by8 (rootV (moreH l))) 25] w108 := H110
            refine GL.semU (j := 7) r109 [0, 3, 4, 5, 6, 58] [(0, .slice A l.length c), (3, .slice A79 ((moreH l).length) c80), (4, pt p92 0), (5, .int .i64 (((rootE l) : Nat) : Int)), (6, pt p104 0), (58, .int .i64 (((rootE (moreH l)) : Nat) : Int))] (by kernel_rfl) rfl rfl rfl ?_
            refine GL.run (j := 8) 1 [0, 3, 4, 5, 6, 7] [(0, .slice A l.length c), (3, .slice A79 ((moreH l).length) c80), (4, pt p92 0), (5, .int .i64 (((rootE l) : Nat) : Int)), (6, pt p104 0), (7, .int .i64 (((rootE (moreH l)) : Nat) : Int))] (by kernel_rfl) rfl ?_
            refine GL.k rfl hK100 (fun _ _ h => h) ?_
            refine G.seqK fun K111 hK112 => ?_
            refine G.seqK fun K113 hK114 => ?_
            refine G.region ?_
            refine GL.run (j := 3) 3 [0, 3, 4, 6, 7, 61] [(0, .slice A l.length c), (3, .slice A79 ((moreH l).length) c80), (4, pt p92 0), (6, pt p104 0), (7, .int .i64 (((rootE (moreH l)) : Nat) : Int)), (61, .bool ((((rootE l) : Nat) : Int) != 0))] (by kernel_rfl) rfl ?_
            have hb115 : ((((rootE l) : Nat) : Int) != 0) = false := by rw [show rootE l = 0 from hce]; rfl
            rw [hb115]
            refine GL.run (j := 7) 4 [0, 3, 4, 6, 65] [(0, .slice A l.length c), (3, .slice A79 ((moreH l).length) c80), (4, pt p92 0), (6, pt p104 0), (65, .bool ((((rootE (moreH l)) : Nat) : Int) != 0))] (by kernel_rfl) rfl ?_
            have hb116 : ((((rootE (moreH l)) : Nat) : Int) != 0) = false := by rw [show rootE (moreH l) = 0 from hce2]; rfl
            rw [hb116]
            refine GL.sem (j := 8) (H110.ldA (o := 0) (ty := 25) (m := 32) (sub := by8 (rootV l)) 1 rfl (by kernel_rfl) (sub_whole (by rw [by8_length, rootV_length hok])) (by rw [by8_length, rootV_length hok])) [0, 3, 4, 6, 65, 66] [(0, .slice A l.length c), (3, .slice A79 ((moreH l).length) c80), (4, pt p92 0), (6, pt p104 0), (65, .bool false), (66, .agg (by8 (rootV l)).toArray)] (by kernel_rfl) (by kernel_rfl) rfl ?_
            refine GL.sem (j := 9) (H110.ldA (o := 0) (ty := 25) (m := 32) (sub := by8 (rootV (moreH l))) 2 rfl (by kernel_rfl) (sub_whole (by rw [by8_length, rootV_length (ok32_moreH hok (by omega))])) (by rw [by8_length, rootV_length (ok32_moreH hok (by omega))])) [0, 3, 4, 65, 66, 67] [(0, .slice A l.length c), (3, .slice A79 ((moreH l).length) c80), (4, pt p92 0), (65, .bool false), (66, .agg (by8 (rootV l)).toArray), (67, .agg (by8 (rootV (moreH l))).toArray)] (by kernel_rfl) (by kernel_rfl) rfl ?_
            refine GL.sem (j := 10) (run_by8_neq (P := Try.prog) (t := 25) (n := 32) (x := (.tmp 66)) (y := (.tmp 67)) (by kernel_rfl) (rootV l) (rootV (moreH l)) (by rw [rootV_length hok]) (by rw [rootV_length (ok32_moreH hok (by omega))]) _) [0, 3, 4, 65, 68] [(0, .slice A l.length c), (3, .slice A79 ((moreH l).length) c80), (4, pt p92 0), (65, .bool false), (68, .bool (!(decide ((rootV l) = (rootV (moreH l))))))] (by kernel_rfl) (by kernel_rfl) rfl ?_
            refine GL.run (j := 11) 1 [0, 3, 4, 69] [(0, .slice A l.length c), (3, .slice A79 ((moreH l).length) c80), (4, pt p92 0), (69, .bool (!(decide ((rootV l) = (rootV (moreH l))))))] (by kernel_rfl) rfl ?_
            refine GL.k rfl hK114 (fun _ _ h => h) ?_
            have hb117 : (!(decide ((rootV l) = (rootV (moreH l))))) = false := by rw [show (decide ((rootV l) = (rootV (moreH l)))) = true from decide_eq_true (by rw [hrv, hrv2, rootH_moreH (by omega) (by omega)])]; rfl
            rw [hb117]
            refine G.no rfl ?_
            refine G.skipK hK112 (fun _ _ h => h) ?_
            refine G.seqK fun K118 hK119 => ?_
            refine G.seqK fun K120 hK121 => ?_
            refine G.region ?_
            refine GL.run (j := 4) 4 [0, 3, 4, 8] [(0, .slice A l.length c), (3, .slice A79 ((moreH l).length) c80), (4, pt p92 0), (8, .int .i64 (IntKind.i64.wrap ((l.length : Int) - 1)))] (by kernel_rfl) rfl ?_
            have e122 : (IntKind.i64.wrap ((l.length : Int) - 1)) = (((l.length - 1) : Nat) : Int) := by rw [in_i64 (by omega)]; omega
            refine GL.eq (M' := [(0, .slice A l.length c), (3, .slice A79 ((moreH l).length) c80), (4, pt p92 0), (8, .int .i64 (((l.length - 1) : Nat) : Int))]) (by rw [e122]) ?_
            clear e122
            refine GL.k rfl hK121 (fun _ _ h => h) ?_
            refine G.block ?_
            refine G.fit [0, 3, 4, 8] (M' := [(0, .slice A l.length c), (3, .slice A79 ((moreH l).length) c80), (4, pt p92 0), (8, .int .i64 (((l.length - 1) : Nat) : Int))]) (by kernel_rfl) ?_
            refine G.loop (X := Nat) (fun i => [(0, .slice A l.length c), (3, .slice A79 ((moreH l).length) c80), (4, pt p92 0), (8, .int .i64 (i : Int))]) (fun i w_ => (l.length - 1 ≤ i ∧ i ≤ l.length + 1) ∧ Hp w [] [.row A79 ((moreH l).length) c80 25 32 (by8 (flat8 (moreH l))), .blk p92 (by8 (rootV l)) 25, .blk p104 (by8 (rootV (moreH l))) 25] w_) (fun i => l.length + 1 - i) (l.length - 1) [0, 3, 4, 8] (by kernel_rfl) ⟨by omega, H110⟩ ?_
            rintro i w123 ⟨hi124, H125⟩
            refine G.eq (M' := [(0, .slice A l.length c), (3, .slice A79 ((moreH l).length) c80), (4, pt p92 0), (8, .int .i64 (i : Int))]) rfl ?_
            have H125 : Hp w [] [.row A79 ((moreH l).length) c80 25 32 (by8 (flat8 (moreH l))), .blk p92 (by8 (rootV l)) 25, .blk p104 (by8 (rootV (moreH l))) 25] w123 := H125
            have hi9 := hi124
            refine G.seqK fun K126 hK127 => ?_
            refine G.seqK fun K128 hK129 => ?_
            refine G.region ?_
            refine GL.run (j := 4) 4 [0, 3, 4, 8, 76] [(0, .slice A l.length c), (3, .slice A79 ((moreH l).length) c80), (4, pt p92 0), (8, .int .i64 (i : Int)), (76, .bool (decide ((i : Int) < (((moreH l).length : Nat) : Int))))] (by kernel_rfl) rfl ?_
            refine GL.k rfl hK129 (fun _ _ h => h) ?_
            cases hb130 : (decide ((i : Int) < (((moreH l).length : Nat) : Int)))
            · skip
              have hb130f := of_decide_eq_false hb130
              refine G.no rfl ?_
              refine G.exitK hK119 (fun _ _ h => h) ?_
              refine G.seqK fun K131 hK132 => ?_
              refine G.region ?_
              refine GL.run (j := 4) 4 [0, 4, 100, 103] [(0, .slice A l.length c), (4, pt p92 0), (100, .slice A l.length c), (103, .int .i64 (IntKind.i64.wrap ((l.length : Int) - 1)))] (by kernel_rfl) rfl ?_
              have e133 : (IntKind.i64.wrap ((l.length : Int) - 1)) = (((l.length - 1) : Nat) : Int) := by rw [in_i64 (by omega)]; omega
              refine GL.eq (M' := [(0, .slice A l.length c), (4, pt p92 0), (100, .slice A l.length c), (103, .int .i64 (((l.length - 1) : Nat) : Int))]) (by rw [e133]) ?_
              clear e133
              refine GL.call (j := 5) (Way_calls A c l (((l.length - 1) : Nat) : Int) w123 (hx.hp H125) hok (by omega) (by omega)) (by kernel_rfl) rfl (fun e_ w136 hR => ?_)
              obtain ⟨A134, c135, rfl, H138⟩ := hR
              have H137 : Hp w [] [.row A79 ((moreH l).length) c80 25 32 (by8 (flat8 (moreH l))), .blk p92 (by8 (rootV l)) 25, .blk p104 (by8 (rootV (moreH l))) 25, .row A134 ((wayV l (((l.length - 1) : Nat) : Int)).length) c135 25 32 (by8 (flat8 (wayV l (((l.length - 1) : Nat) : Int))))] w136 := H125.callNew H138
              have hqH137 := (H137.rowLe 3 rfl).1
              refine ⟨_, rfl, [0, 4, 104], [(0, .slice A l.length c), (4, pt p92 0), (104, .tuple #[.slice A134 ((wayV l (((l.length - 1) : Nat) : Int)).length) c135, .int .i64 (((wayE l (((l.length - 1) : Nat) : Int)) : Nat) : Int)])], by kernel_rfl, ?_⟩
              refine GL.run (j := 10) 5 [0, 4, 11, 12] [(0, .slice A l.length c), (4, pt p92 0), (11, .slice A134 ((wayV l (((l.length - 1) : Nat) : Int)).length) c135), (12, .int .i64 (((wayE l (((l.length - 1) : Nat) : Int)) : Nat) : Int))] (by kernel_rfl) rfl ?_
              refine GL.k rfl hK132 (fun _ _ h => h) ?_
              refine G.seqK fun K139 hK140 => ?_
              refine G.heldP (Hp w [] [.row A79 ((moreH l).length) c80 25 32 (by8 (flat8 (moreH l))), .blk p92 (by8 (rootV l)) 25, .blk p104 (by8 (rootV (moreH l))) 25, .row A134 ((wayV l (((l.length - 1) : Nat) : Int)).length) c135 25 32 (by8 (flat8 (wayV l (((l.length - 1) : Nat) : Int))))]) (by kernel_rfl) (by kernel_rfl) (fun c_ a_ d_ v_ w_ h_ => hPan c_ a_ d_ v_ w_ h_) ?_
              have H141 := H137.drew
              generalize ({ w136 with drawn := w136.drawn + 1 } : World) = w142 at H141 ⊢
              have hS143 : Hp w [] [.row A79 ((moreH l).length) c80 25 32 (by8 (flat8 (moreH l))), .blk p92 (by8 (rootV l)) 25, .blk p104 (by8 (rootV (moreH l))) 25, .row A134 ((wayV l (((l.length - 1) : Nat) : Int)).length) c135 25 32 (by8 (flat8 (wayV l (((l.length - 1) : Nat) : Int))))] w142 := H141.sub (List.Sublist.cons_cons _ (List.Sublist.cons_cons _ (List.Sublist.cons_cons _ (List.Sublist.cons_cons _ (List.Sublist.slnil)))))
              refine GP.run [0, 1, 2] [0, 4, 11, 109] [(0, .slice A l.length c), (4, pt p92 0), (11, .slice A134 ((wayV l (((l.length - 1) : Nat) : Int)).length) c135), (109, .bool ((((wayE l (((l.length - 1) : Nat) : Int)) : Nat) : Int) == 0))] [0, 1, 2] (by kernel_rfl) rfl hS143 ?_
              have hb144 : ((((wayE l (((l.length - 1) : Nat) : Int)) : Nat) : Int) == 0) = true := by rw [show wayE l _ = 0 from hwe]; rfl
              rw [hb144]
              refine GP.sem 3 (fun w_ H_ => H_.ldA (o := 0) (ty := 25) (m := 32) (sub := by8 (rootV l)) 1 rfl (by kernel_rfl) (sub_whole (by rw [by8_length, rootV_length hok])) (by rw [by8_length, rootV_length hok])) [0, 11, 109, 110] [(0, .slice A l.length c), (11, .slice A134 ((wayV l (((l.length - 1) : Nat) : Int)).length) c135), (109, .bool true), (110, .agg (by8 (rootV l)).toArray)] (by kernel_rfl) (by kernel_rfl) (by kernel_rfl) hS143 ?_
              refine GP.run [4, 5, 6, 7] [0, 11, 109, 110, 111, 114] [(0, .slice A l.length c), (11, .slice A134 ((wayV l (((l.length - 1) : Nat) : Int)).length) c135), (109, .bool true), (110, .agg (by8 (rootV l)).toArray), (111, .slice A l.length c), (114, .int .i64 (IntKind.i64.wrap ((l.length : Int) - 1)))] [0, 1, 2, 3, 4, 5, 6, 7] (by kernel_rfl) rfl hS143 ?_
              have e145 : (IntKind.i64.wrap ((l.length : Int) - 1)) = (((l.length - 1) : Nat) : Int) := by rw [in_i64 (by omega)]; omega
              refine GP.eq (M' := [(0, .slice A l.length c), (11, .slice A134 ((wayV l (((l.length - 1) : Nat) : Int)).length) c135), (109, .bool true), (110, .agg (by8 (rootV l)).toArray), (111, .slice A l.length c), (114, .int .i64 (((l.length - 1) : Nat) : Int))]) (by rw [e145]) ?_
              clear e145
              refine GP.sem 8 (fun w_ H_ => run_idxRdN (P := Try.prog) (k := .i64) (t := 22) (sz := 32) (A := A) (len := l.length) (cap := c) (j := (l.length - 1)) (by kernel_rfl) rfl (hx.hp H_) (by rw [by8_length]; exact flat8_length hok) (by decide) (by omega)) [0, 11, 109, 110, 115] [(0, .slice A l.length c), (11, .slice A134 ((wayV l (((l.length - 1) : Nat) : Int)).length) c135), (109, .bool true), (110, .agg (by8 (rootV l)).toArray), (115, .pointer (Option.map (fun x => Addr.add x ((l.length - 1) * 32)) A))] (by kernel_rfl) (by kernel_rfl) (by kernel_rfl) hS143 ?_
              refine GP.sem 9 (fun w_ H_ => run_ldRdA (P := Try.prog) (ty := 25) (m := 32) (o := ((l.length - 1) * 32)) (A := A) (sub := by8 (l.getD (l.length - 1) [])) (by kernel_rfl) (hx.hp H_) (flat8_sub hok (by omega)) (by rw [by8_length, ok32_at hok (by omega)]) (by decide)) [0, 11, 109, 110, 116] [(0, .slice A l.length c), (11, .slice A134 ((wayV l (((l.length - 1) : Nat) : Int)).length) c135), (109, .bool true), (110, .agg (by8 (rootV l)).toArray), (116, .agg (by8 (l.getD (l.length - 1) [])).toArray)] (by kernel_rfl) (by kernel_rfl) (by kernel_rfl) hS143 ?_
              refine GP.run [10, 11, 12, 13, 14, 15] [109, 110, 116, 119, 121, 122] [(109, .bool true), (110, .agg (by8 (rootV l)).toArray), (116, .agg (by8 (l.getD (l.length - 1) [])).toArray), (119, .int .i64 (IntKind.i64.wrap ((l.length : Int) - 1))), (121, .int .i64 (l.length : Int)), (122, .slice A134 ((wayV l (((l.length - 1) : Nat) : Int)).length) c135)] [0, 1, 2, 3, 4, 5, 6, 7, 8, 9, 10, 11, 12, 13, 14, 15] (by kernel_rfl) rfl hS143 ?_
              have e146 : (IntKind.i64.wrap ((l.length : Int) - 1)) = (((l.length - 1) : Nat) : Int) := by rw [in_i64 (by omega)]; omega
              refine GP.eq (M' := [(109, .bool true), (110, .agg (by8 (rootV l)).toArray), (116, .agg (by8 (l.getD (l.length - 1) [])).toArray), (119, .int .i64 (((l.length - 1) : Nat) : Int)), (121, .int .i64 (l.length : Int)), (122, .slice A134 ((wayV l (((l.length - 1) : Nat) : Int)).length) c135)]) (by rw [e146]) ?_
              clear e146
              refine GP.call 16 (Check_calls2 (rootV l) (by rw [rootV_length hok]) (l.getD (l.length - 1) []) (by rw [ok32_at hok (by omega)]) (((l.length - 1) : Nat) : Int) (l.length : Int) A134 c135 (wayV l (((l.length - 1) : Nat) : Int)) w142 (H141.rdRowN 3 rfl) (by rw [show wayV l (((l.length - 1) : Nat) : Int) = _ from hwv]; exact ok32_wayH l.length l _ (Nat.le_refl _) hok) ((H141.rowLe 3 rfl).1)) (by kernel_rfl) (by kernel_rfl) (fun e_ w147 hR => ?_)
              obtain ⟨rfl, H149⟩ := hR
              have H148 : Hp w [] [.row A79 ((moreH l).length) c80 25 32 (by8 (flat8 (moreH l))), .blk p92 (by8 (rootV l)) 25, .blk p104 (by8 (rootV (moreH l))) 25, .row A134 ((wayV l (((l.length - 1) : Nat) : Int)).length) c135 25 32 (by8 (flat8 (wayV l (((l.length - 1) : Nat) : Int))))] w147 := H141.callNil H149
              have hS150 : Hp w [] [.row A79 ((moreH l).length) c80 25 32 (by8 (flat8 (moreH l))), .blk p92 (by8 (rootV l)) 25, .blk p104 (by8 (rootV (moreH l))) 25, .row A134 ((wayV l (((l.length - 1) : Nat) : Int)).length) c135 25 32 (by8 (flat8 (wayV l (((l.length - 1) : Nat) : Int))))] w147 := H148.sub (List.Sublist.cons_cons _ (List.Sublist.cons_cons _ (List.Sublist.cons_cons _ (List.Sublist.cons_cons _ (List.Sublist.slnil)))))
              refine ⟨_, rfl, hS150, [109, 123], [(109, .bool true), (123, .bool (checkB (wayV l (((l.length - 1) : Nat) : Int)) (rootV l) (l.getD (l.length - 1) []) (((l.length - 1) : Nat) : Int) (l.length : Int)))], by kernel_rfl, ?_⟩
              refine GP.run [17, 18] [2] [(2, .bool (checkB (wayV l (((l.length - 1) : Nat) : Int)) (rootV l) (l.getD (l.length - 1) []) (((l.length - 1) : Nat) : Int) (l.length : Int)))] [0, 1, 2, 3, 4, 5, 6, 7, 8, 9, 10, 11, 12, 13, 14, 15, 16, 17, 18] (by kernel_rfl) rfl hS150 ?_
              refine GP.k (by kernel_rfl) hK140 (fun _ _ h => h) ?_
              refine G.ret ?_
              intro F_ hF_ hM_
              refine hRet _ _ (bodyPost_1 rfl (RV.tmp rfl) ?_ F_ hF_ hM_)
              have hb151 : (checkB (wayV l (((l.length - 1) : Nat) : Int)) (rootV l) (l.getD (l.length - 1) []) (((l.length - 1) : Nat) : Int) (l.length : Int)) = true := by rw [show checkB (wayV l ((l.length - 1 : Nat) : Int)) _ _ ((l.length - 1 : Nat) : Int) _ = _ from check_is hlf (by omega), hwv, hrv]; exact decide_eq_true hcw
              rw [hb151]
              exact ⟨rfl, H148.sub (List.nil_sublist _)⟩
            · skip
              have hb130f := of_decide_eq_true hb130
              have hwvi : wayV (moreH l) (i : Int) = wayH (moreH l) i := by unfold wayV; rw [if_pos (show wayE (moreH l) (i : Int) = 0 by unfold wayE; rw [if_pos hce2, if_pos (by omega)])]; simp
              refine G.yes rfl ?_
              refine G.skipK hK127 (fun _ _ h => h) ?_
              refine G.seqK fun K152 hK153 => ?_
              refine G.block ?_
              refine G.seqK fun K154 hK155 => ?_
              refine G.region ?_
              refine GL.run (j := 2) 2 [0, 3, 4, 8, 80, 81] [(0, .slice A l.length c), (3, .slice A79 ((moreH l).length) c80), (4, pt p92 0), (8, .int .i64 (i : Int)), (80, .slice A79 ((moreH l).length) c80), (81, .int .i64 (i : Int))] (by kernel_rfl) rfl ?_
              refine GL.call (j := 3) (Way_calls A79 c80 (moreH l) (i : Int) w123 (H125.rdRowN 0 rfl) (ok32_moreH hok (by omega)) ((H125.rowLe 0 rfl).1) (by omega)) (by kernel_rfl) rfl (fun e_ w158 hR => ?_)
              obtain ⟨A156, c157, rfl, H160⟩ := hR
              have H159 : Hp w [] [.row A79 ((moreH l).length) c80 25 32 (by8 (flat8 (moreH l))), .blk p92 (by8 (rootV l)) 25, .blk p104 (by8 (rootV (moreH l))) 25, .row A156 ((wayV (moreH l) (i : Int)).length) c157 25 32 (by8 (flat8 (wayV (moreH l) (i : Int))))] w158 := H125.callNew H160
              have hqH159 := (H159.rowLe 3 rfl).1
              refine ⟨_, rfl, [0, 3, 4, 8, 82], [(0, .slice A l.length c), (3, .slice A79 ((moreH l).length) c80), (4, pt p92 0), (8, .int .i64 (i : Int)), (82, .tuple #[.slice A156 ((wayV (moreH l) (i : Int)).length) c157, .int .i64 (((wayE (moreH l) (i : Int)) : Nat) : Int)])], by kernel_rfl, ?_⟩
              refine GL.run (j := 8) 5 [0, 3, 4, 8, 9, 10] [(0, .slice A l.length c), (3, .slice A79 ((moreH l).length) c80), (4, pt p92 0), (8, .int .i64 (i : Int)), (9, .slice A156 ((wayV (moreH l) (i : Int)).length) c157), (10, .int .i64 (((wayE (moreH l) (i : Int)) : Nat) : Int))] (by kernel_rfl) rfl ?_
              refine GL.k rfl hK155 (fun _ _ h => h) ?_
              refine G.seqK fun K161 hK162 => ?_
              refine G.heldP (Hp w [] [.row A79 ((moreH l).length) c80 25 32 (by8 (flat8 (moreH l))), .blk p92 (by8 (rootV l)) 25, .blk p104 (by8 (rootV (moreH l))) 25, .row A156 ((wayV (moreH l) (i : Int)).length) c157 25 32 (by8 (flat8 (wayV (moreH l) (i : Int))))]) (by kernel_rfl) (by kernel_rfl) (fun c_ a_ d_ v_ w_ h_ => hPan c_ a_ d_ v_ w_ h_) ?_
              have H163 := H159.drew
              generalize ({ w158 with drawn := w158.drawn + 1 } : World) = w164 at H163 ⊢
              have hS165 : Hp w [] [.row A79 ((moreH l).length) c80 25 32 (by8 (flat8 (moreH l))), .blk p92 (by8 (rootV l)) 25, .blk p104 (by8 (rootV (moreH l))) 25, .row A156 ((wayV (moreH l) (i : Int)).length) c157 25 32 (by8 (flat8 (wayV (moreH l) (i : Int))))] w164 := H163.sub (List.Sublist.cons_cons _ (List.Sublist.cons_cons _ (List.Sublist.cons_cons _ (List.Sublist.cons_cons _ (List.Sublist.slnil)))))
              refine GP.run [0, 1, 2] [0, 3, 4, 8, 9, 87] [(0, .slice A l.length c), (3, .slice A79 ((moreH l).length) c80), (4, pt p92 0), (8, .int .i64 (i : Int)), (9, .slice A156 ((wayV (moreH l) (i : Int)).length) c157), (87, .bool ((((wayE (moreH l) (i : Int)) : Nat) : Int) != 0))] [0, 1, 2] (by kernel_rfl) rfl hS165 ?_
              have hb166 : ((((wayE (moreH l) (i : Int)) : Nat) : Int) != 0) = false := by rw [show wayE (moreH l) (i : Int) = 0 by unfold wayE; rw [if_pos hce2, if_pos (by omega)]]; rfl
              rw [hb166]
              refine GP.sem 3 (fun w_ H_ => H_.ldA (o := 0) (ty := 25) (m := 32) (sub := by8 (rootV l)) 1 rfl (by kernel_rfl) (sub_whole (by rw [by8_length, rootV_length hok])) (by rw [by8_length, rootV_length hok])) [0, 3, 4, 8, 9, 87, 88] [(0, .slice A l.length c), (3, .slice A79 ((moreH l).length) c80), (4, pt p92 0), (8, .int .i64 (i : Int)), (9, .slice A156 ((wayV (moreH l) (i : Int)).length) c157), (87, .bool false), (88, .agg (by8 (rootV l)).toArray)] (by kernel_rfl) (by kernel_rfl) (by kernel_rfl) hS165 ?_
              refine GP.run [4, 5] [0, 3, 4, 8, 9, 87, 88, 89, 90] [(0, .slice A l.length c), (3, .slice A79 ((moreH l).length) c80), (4, pt p92 0), (8, .int .i64 (i : Int)), (9, .slice A156 ((wayV (moreH l) (i : Int)).length) c157), (87, .bool false), (88, .agg (by8 (rootV l)).toArray), (89, .slice A79 ((moreH l).length) c80), (90, .int .i64 (i : Int))] [0, 1, 2, 3, 4, 5] (by kernel_rfl) rfl hS165 ?_
              refine GP.sem 6 (fun w_ H_ => run_idxRdN (P := Try.prog) (k := .i64) (t := 22) (sz := 32) (A := A79) (len := (moreH l).length) (cap := c80) (j := i) (by kernel_rfl) rfl (H_.rdRowN 0 rfl) (by rw [by8_length]; exact flat8_length (ok32_moreH hok (by omega))) (by decide) (by omega)) [0, 3, 4, 8, 9, 87, 88, 91] [(0, .slice A l.length c), (3, .slice A79 ((moreH l).length) c80), (4, pt p92 0), (8, .int .i64 (i : Int)), (9, .slice A156 ((wayV (moreH l) (i : Int)).length) c157), (87, .bool false), (88, .agg (by8 (rootV l)).toArray), (91, .pointer (Option.map (fun x => Addr.add x (i * 32)) A79))] (by kernel_rfl) (by kernel_rfl) (by kernel_rfl) hS165 ?_
              refine GP.sem 7 (fun w_ H_ => run_ldRdA (P := Try.prog) (ty := 25) (m := 32) (o := (i * 32)) (A := A79) (sub := by8 ((moreH l).getD i [])) (by kernel_rfl) (H_.rdRowN 0 rfl) (flat8_sub (ok32_moreH hok (by omega)) (by omega)) (by rw [by8_length, ok32_at (ok32_moreH hok (by omega)) (by omega)]) (by decide)) [0, 3, 4, 8, 9, 87, 88, 92] [(0, .slice A l.length c), (3, .slice A79 ((moreH l).length) c80), (4, pt p92 0), (8, .int .i64 (i : Int)), (9, .slice A156 ((wayV (moreH l) (i : Int)).length) c157), (87, .bool false), (88, .agg (by8 (rootV l)).toArray), (92, .agg (by8 ((moreH l).getD i [])).toArray)] (by kernel_rfl) (by kernel_rfl) (by kernel_rfl) hS165 ?_
              refine GP.run [8, 9, 10, 11] [0, 3, 4, 8, 87, 88, 92, 93, 95, 96] [(0, .slice A l.length c), (3, .slice A79 ((moreH l).length) c80), (4, pt p92 0), (8, .int .i64 (i : Int)), (87, .bool false), (88, .agg (by8 (rootV l)).toArray), (92, .agg (by8 ((moreH l).getD i [])).toArray), (93, .int .i64 (i : Int)), (95, .int .i64 (((moreH l).length : Nat) : Int)), (96, .slice A156 ((wayV (moreH l) (i : Int)).length) c157)] [0, 1, 2, 3, 4, 5, 6, 7, 8, 9, 10, 11] (by kernel_rfl) rfl hS165 ?_
              refine GP.call 12 (Check_calls2 (rootV l) (by rw [rootV_length hok]) ((moreH l).getD i []) (by rw [ok32_at (ok32_moreH hok (by omega)) (by omega)]) (i : Int) (((moreH l).length : Nat) : Int) A156 c157 (wayV (moreH l) (i : Int)) w164 (H163.rdRowN 3 rfl) (by rw [hwvi]; exact ok32_wayH (moreH l).length (moreH l) i (Nat.le_refl _) (ok32_moreH hok (by omega))) ((H163.rowLe 3 rfl).1)) (by kernel_rfl) (by kernel_rfl) (fun e_ w167 hR => ?_)
              obtain ⟨rfl, H169⟩ := hR
              have H168 : Hp w [] [.row A79 ((moreH l).length) c80 25 32 (by8 (flat8 (moreH l))), .blk p92 (by8 (rootV l)) 25, .blk p104 (by8 (rootV (moreH l))) 25, .row A156 ((wayV (moreH l) (i : Int)).length) c157 25 32 (by8 (flat8 (wayV (moreH l) (i : Int))))] w167 := H163.callNil H169
              have hS170 : Hp w [] [.row A79 ((moreH l).length) c80 25 32 (by8 (flat8 (moreH l))), .blk p92 (by8 (rootV l)) 25, .blk p104 (by8 (rootV (moreH l))) 25, .row A156 ((wayV (moreH l) (i : Int)).length) c157 25 32 (by8 (flat8 (wayV (moreH l) (i : Int))))] w167 := H168.sub (List.Sublist.cons_cons _ (List.Sublist.cons_cons _ (List.Sublist.cons_cons _ (List.Sublist.cons_cons _ (List.Sublist.slnil)))))
              refine ⟨_, rfl, hS170, [0, 3, 4, 8, 87, 97], [(0, .slice A l.length c), (3, .slice A79 ((moreH l).length) c80), (4, pt p92 0), (8, .int .i64 (i : Int)), (87, .bool false), (97, .bool (checkB (wayV (moreH l) (i : Int)) (rootV l) ((moreH l).getD i []) (i : Int) (((moreH l).length : Nat) : Int)))], by kernel_rfl, ?_⟩
              refine GP.run [13] [0, 3, 4, 8, 98] [(0, .slice A l.length c), (3, .slice A79 ((moreH l).length) c80), (4, pt p92 0), (8, .int .i64 (i : Int)), (98, .bool (checkB (wayV (moreH l) (i : Int)) (rootV l) ((moreH l).getD i []) (i : Int) (((moreH l).length : Nat) : Int)))] [0, 1, 2, 3, 4, 5, 6, 7, 8, 9, 10, 11, 12, 13] (by kernel_rfl) rfl hS170 ?_
              refine GP.k (by kernel_rfl) hK162 (fun _ _ h => h) ?_
              have hb171 : (checkB (wayV (moreH l) (i : Int)) (rootV l) ((moreH l).getD i []) (i : Int) (((moreH l).length : Nat) : Int)) = false := by rw [check_is hlf2 (by omega), hwvi, twice_climb (by omega) (by omega)]; exact decide_eq_false (fun h => absurd (congrArg Prod.snd h) (by simp))
              rw [hb171]
              refine G.no rfl ?_
              refine G.skipK hK153 (fun _ _ h => h) ?_
              refine G.region ?_
              refine GL.run (j := 3) 3 [0, 3, 4, 8] [(0, .slice A l.length c), (3, .slice A79 ((moreH l).length) c80), (4, pt p92 0), (8, .int .i64 (IntKind.i64.wrap ((i : Int) + 1)))] (by kernel_rfl) rfl ?_
              have e172 : (IntKind.i64.wrap ((i : Int) + 1)) = ((i + 1 : Nat) : Int) := by rw [in_i64 (by omega)]; omega
              refine GL.eq (M' := [(0, .slice A l.length c), (3, .slice A79 ((moreH l).length) c80), (4, pt p92 0), (8, .int .i64 ((i + 1 : Nat) : Int))]) (by rw [e172]) ?_
              clear e172
              have H173 : Hp w [] [.row A79 ((moreH l).length) c80 25 32 (by8 (flat8 (moreH l))), .blk p92 (by8 (rootV l)) 25, .blk p104 (by8 (rootV (moreH l))) 25] w167 := H168.sub (List.Sublist.cons_cons _ (List.Sublist.cons_cons _ (List.Sublist.cons_cons _ (List.Sublist.cons _ (List.Sublist.slnil)))))
              refine GL.fit (ts := [0, 3, 4, 8]) (M' := [(0, .slice A l.length c), (3, .slice A79 ((moreH l).length) c80), (4, pt p92 0), (8, .int .i64 ((i + 1 : Nat) : Int))]) (by kernel_rfl) ?_
              refine GL.eq (M' := [(0, .slice A l.length c), (3, .slice A79 ((moreH l).length) c80), (4, pt p92 0), (8, .int .i64 (((i + 1) : Nat) : Int))]) (by rfl) ?_
              exact GL.again (i + 1) [0, 3, 4, 8] rfl (by kernel_rfl) (by show l.length + 1 - (i + 1) < l.length + 1 - i; omega) ⟨by omega, H173⟩
          have st75 : ∀ (wD_ : World) (p35 : Nat) (A45 : Option Addr) (c46 : Nat), Hp w [] [.row A14 l.length c15 24 32 (by8 (flat8 l)), .row A45 l.length c46 25 32 (by8 ((flat8 []) ++ (flat8 l)))] wD_ → Xd_ [1, 3, 4, 5, 6, 7, 8, 0, 2] [(0, .slice A l.length c), (40, .slice A45 l.length c46), (46, .agg (by8 (l.getD (l.length - 1) [])).toArray)] wD_ := by
            intro wD_ p35 A45 c46 HD_
            rw [hXd_]
            have hS174 : Hp w [] [.row A14 l.length c15 24 32 (by8 (flat8 l))] wD_ := HD_.sub (List.Sublist.cons_cons _ (List.Sublist.cons _ (List.Sublist.slnil)))
            refine GP.all1 9 (by kernel_rfl) ?_
            · skip
              have hS175 : Hp w [] [.row A14 l.length c15 24 32 (by8 (flat8 l))] wD_ := HD_.sub (List.Sublist.cons_cons _ (List.Sublist.cons _ (List.Sublist.slnil)))
              obtain ⟨p176, w177, r178, H179⟩ := HD_.madeRow (P := Try.prog) (Instr.buildSlice 22 1 #[(0, .agg (by8 (l.getD (l.length - 1) [])).toArray)]) (fun b_ => .slice (some ⟨b_, 0, none⟩) 1 1) (by8 (l.getD (l.length - 1) [])) 25 1 1 32 (built1_22 (l.getD (l.length - 1) []) (by rw [ok32_at hok (by omega)])) (by decide) (by decide) (by rw [by8_length, ok32_at hok (by omega)])
              rw [List.take_of_length_le (show (by8 (l.getD (l.length - 1) [])).length ≤ 1 * 32 from Nat.le_of_eq (by rw [by8_length, ok32_at hok (by omega)]))] at H179
              have H179 : Hp w [] [.row A14 l.length c15 24 32 (by8 (flat8 l)), .row A45 l.length c46 25 32 (by8 ((flat8 []) ++ (flat8 l))), .row (some ⟨p176, 0, none⟩) 1 1 25 32 (by8 (l.getD (l.length - 1) []))] w177 := H179
              have hS180 : Hp w [] [.row A14 l.length c15 24 32 (by8 (flat8 l))] w177 := H179.sub (List.Sublist.cons_cons _ (List.Sublist.cons _ (List.Sublist.cons _ (List.Sublist.slnil))))
              refine GO.made r178 [0, 40, 47] [(0, .slice A l.length c), (40, .slice A45 l.length c46), (47, .slice (some ⟨p176, 0, none⟩) 1 1)] (by kernel_rfl) (by kernel_rfl) hS180 ?_
              refine GP.perm [1, 3, 4, 5, 6, 7, 8, 0, 2, 9] (by kernel_rfl) rfl ?_
              rw [← hXd_]
              exact st77 _ p35 A45 c46 p176 H179
          have st76 : ∀ (wD_ : World) (p35 : Nat) (p51 : Nat), Hp w [] [.row A14 l.length c15 24 32 (by8 (flat8 l)), .row (some ⟨p35, 0, none⟩) 0 0 25 32 (by8 (flat8 [])), .row (some ⟨p51, 0, none⟩) 1 1 25 32 (by8 (l.getD (l.length - 1) []))] wD_ → Xd_ [1, 3, 4, 5, 6, 7, 8, 0, 9] [(0, .slice A l.length c), (38, .slice (some ⟨p35, 0, none⟩) 0 0), (39, .slice A l.length c), (47, .slice (some ⟨p51, 0, none⟩) 1 1)] wD_ := by
            intro wD_ p35 p51 HD_
            rw [hXd_]
            have hS181 : Hp w [] [.row A14 l.length c15 24 32 (by8 (flat8 l))] wD_ := HD_.sub (List.Sublist.cons_cons _ (List.Sublist.cons _ (List.Sublist.cons _ (List.Sublist.slnil))))
            refine GP.all1 2 (by kernel_rfl) ?_
            · skip
              have hS182 : Hp w [] [.row A14 l.length c15 24 32 (by8 (flat8 l))] wD_ := HD_.sub (List.Sublist.cons_cons _ (List.Sublist.cons _ (List.Sublist.cons _ (List.Sublist.slnil))))
              obtain ⟨A183, c184, w185, r186, H187⟩ := HD_.append (P := Try.prog) (e := 25) (sz := 32) (by_ := 32) (n := 0) (c := 0) (m := l.length) (d := c) (t := 22) (ty := 22) (xs := by8 (flat8 [])) (news := by8 (flat8 l)) 1 rfl (by kernel_rfl) (hx.hp HD_) (by rw [by8_length, flat8_length hok]) (by8_one _) (by omega) (by simp only [maxLen]; omega)
              rw [Nat.zero_add] at r186 H187
              rw [← by8_append] at H187
              have H187 : Hp w [] [.row A14 l.length c15 24 32 (by8 (flat8 l)), .row A183 l.length c184 25 32 (by8 ((flat8 []) ++ (flat8 l))), .row (some ⟨p51, 0, none⟩) 1 1 25 32 (by8 (l.getD (l.length - 1) []))] w185 := H187
              have hS188 : Hp w [] [.row A14 l.length c15 24 32 (by8 (flat8 l))] w185 := H187.sub (List.Sublist.cons_cons _ (List.Sublist.cons _ (List.Sublist.cons _ (List.Sublist.slnil))))
              refine GO.made r186 [0, 40, 47] [(0, .slice A l.length c), (40, .slice A183 l.length c184), (47, .slice (some ⟨p51, 0, none⟩) 1 1)] (by kernel_rfl) (by kernel_rfl) hS188 ?_
              refine GP.perm [1, 3, 4, 5, 6, 7, 8, 0, 2, 9] (by kernel_rfl) rfl ?_
              rw [← hXd_]
              exact st77 _ p35 A183 c184 p51 H187
          have st73 : ∀ (wD_ : World) (p35 : Nat), Hp w [] [.row A14 l.length c15 24 32 (by8 (flat8 l)), .row (some ⟨p35, 0, none⟩) 0 0 25 32 (by8 (flat8 []))] wD_ → Xd_ [1, 3, 4, 5, 6, 7, 8, 0] [(0, .slice A l.length c), (38, .slice (some ⟨p35, 0, none⟩) 0 0), (39, .slice A l.length c), (46, .agg (by8 (l.getD (l.length - 1) [])).toArray)] wD_ := by
            intro wD_ p35 HD_
            rw [hXd_]
            have hS189 : Hp w [] [.row A14 l.length c15 24 32 (by8 (flat8 l))] wD_ := HD_.sub (List.Sublist.cons_cons _ (List.Sublist.cons _ (List.Sublist.slnil)))
            refine GP.all2 2 9 (by kernel_rfl) ?_ ?_
            · skip
              have hS190 : Hp w [] [.row A14 l.length c15 24 32 (by8 (flat8 l))] wD_ := HD_.sub (List.Sublist.cons_cons _ (List.Sublist.cons _ (List.Sublist.slnil)))
              obtain ⟨A191, c192, w193, r194, H195⟩ := HD_.append (P := Try.prog) (e := 25) (sz := 32) (by_ := 32) (n := 0) (c := 0) (m := l.length) (d := c) (t := 22) (ty := 22) (xs := by8 (flat8 [])) (news := by8 (flat8 l)) 1 rfl (by kernel_rfl) (hx.hp HD_) (by rw [by8_length, flat8_length hok]) (by8_one _) (by omega) (by simp only [maxLen]; omega)
              rw [Nat.zero_add] at r194 H195
              rw [← by8_append] at H195
              have H195 : Hp w [] [.row A14 l.length c15 24 32 (by8 (flat8 l)), .row A191 l.length c192 25 32 (by8 ((flat8 []) ++ (flat8 l)))] w193 := H195
              have hS196 : Hp w [] [.row A14 l.length c15 24 32 (by8 (flat8 l))] w193 := H195.sub (List.Sublist.cons_cons _ (List.Sublist.cons _ (List.Sublist.slnil)))
              refine GO.made r194 [0, 40, 46] [(0, .slice A l.length c), (40, .slice A191 l.length c192), (46, .agg (by8 (l.getD (l.length - 1) [])).toArray)] (by kernel_rfl) (by kernel_rfl) hS196 ?_
              refine GP.perm [1, 3, 4, 5, 6, 7, 8, 0, 2] (by kernel_rfl) rfl ?_
              rw [← hXd_]
              exact st75 _ p35 A191 c192 H195
            · skip
              have hS197 : Hp w [] [.row A14 l.length c15 24 32 (by8 (flat8 l))] wD_ := HD_.sub (List.Sublist.cons_cons _ (List.Sublist.cons _ (List.Sublist.slnil)))
              obtain ⟨p198, w199, r200, H201⟩ := HD_.madeRow (P := Try.prog) (Instr.buildSlice 22 1 #[(0, .agg (by8 (l.getD (l.length - 1) [])).toArray)]) (fun b_ => .slice (some ⟨b_, 0, none⟩) 1 1) (by8 (l.getD (l.length - 1) [])) 25 1 1 32 (built1_22 (l.getD (l.length - 1) []) (by rw [ok32_at hok (by omega)])) (by decide) (by decide) (by rw [by8_length, ok32_at hok (by omega)])
              rw [List.take_of_length_le (show (by8 (l.getD (l.length - 1) [])).length ≤ 1 * 32 from Nat.le_of_eq (by rw [by8_length, ok32_at hok (by omega)]))] at H201
              have H201 : Hp w [] [.row A14 l.length c15 24 32 (by8 (flat8 l)), .row (some ⟨p35, 0, none⟩) 0 0 25 32 (by8 (flat8 [])), .row (some ⟨p198, 0, none⟩) 1 1 25 32 (by8 (l.getD (l.length - 1) []))] w199 := H201
              have hS202 : Hp w [] [.row A14 l.length c15 24 32 (by8 (flat8 l))] w199 := H201.sub (List.Sublist.cons_cons _ (List.Sublist.cons _ (List.Sublist.cons _ (List.Sublist.slnil))))
              refine GO.made r200 [0, 38, 39, 47] [(0, .slice A l.length c), (38, .slice (some ⟨p35, 0, none⟩) 0 0), (39, .slice A l.length c), (47, .slice (some ⟨p198, 0, none⟩) 1 1)] (by kernel_rfl) (by kernel_rfl) hS202 ?_
              refine GP.perm [1, 3, 4, 5, 6, 7, 8, 0, 9] (by kernel_rfl) rfl ?_
              rw [← hXd_]
              exact st76 _ p35 p198 H201
          have st74 : ∀ (wD_ : World) (p40 : Nat), Hp w [] [.row A14 l.length c15 24 32 (by8 (flat8 l)), .row (some ⟨p40, 0, none⟩) 1 1 25 32 (by8 (l.getD (l.length - 1) []))] wD_ → Xd_ [1, 3, 4, 5, 6, 7, 8, 9] [(0, .slice A l.length c), (39, .slice A l.length c), (47, .slice (some ⟨p40, 0, none⟩) 1 1)] wD_ := by
            intro wD_ p40 HD_
            rw [hXd_]
            have hS203 : Hp w [] [.row A14 l.length c15 24 32 (by8 (flat8 l))] wD_ := HD_.sub (List.Sublist.cons_cons _ (List.Sublist.cons _ (List.Sublist.slnil)))
            refine GP.all1 0 (by kernel_rfl) ?_
            · skip
              have hS204 : Hp w [] [.row A14 l.length c15 24 32 (by8 (flat8 l))] wD_ := HD_.sub (List.Sublist.cons_cons _ (List.Sublist.cons _ (List.Sublist.slnil)))
              obtain ⟨p205, w206, r207, H208⟩ := HD_.madeRow (P := Try.prog) (Instr.buildSlice 22 0 #[]) (fun b_ => .slice (some ⟨b_, 0, none⟩) 0 0) [] 25 0 0 32 (by kernel_rfl) (by decide) (by decide) rfl
              have H208 : Hp w [] [.row A14 l.length c15 24 32 (by8 (flat8 l)), .row (some ⟨p40, 0, none⟩) 1 1 25 32 (by8 (l.getD (l.length - 1) [])), .row (some ⟨p205, 0, none⟩) 0 0 25 32 (by8 (flat8 []))] w206 := H208
              have hS209 : Hp w [] [.row A14 l.length c15 24 32 (by8 (flat8 l))] w206 := H208.sub (List.Sublist.cons_cons _ (List.Sublist.cons _ (List.Sublist.cons _ (List.Sublist.slnil))))
              refine GO.made r207 [0, 38, 39, 47] [(0, .slice A l.length c), (38, .slice (some ⟨p205, 0, none⟩) 0 0), (39, .slice A l.length c), (47, .slice (some ⟨p40, 0, none⟩) 1 1)] (by kernel_rfl) (by kernel_rfl) hS209 ?_
              have H210 := (Hp.reorder (L' := [.row A14 l.length c15 24 32 (by8 (flat8 l)), .row (some ⟨p205, 0, none⟩) 0 0 25 32 (by8 (flat8 [])), .row (some ⟨p40, 0, none⟩) 1 1 25 32 (by8 (l.getD (l.length - 1) []))]) H208 (List.Perm.cons _ (List.Perm.trans (List.Perm.swap _ _ _) (List.Perm.refl _))))
              refine GP.perm [1, 3, 4, 5, 6, 7, 8, 0, 9] (by kernel_rfl) rfl ?_
              rw [← hXd_]
              exact st76 _ p205 p40 H210
          have st72 : ∀ (wD_ : World), Hp w [] [.row A14 l.length c15 24 32 (by8 (flat8 l))] wD_ → Xd_ [1, 3, 4, 5, 6, 7, 8] [(0, .slice A l.length c), (39, .slice A l.length c), (46, .agg (by8 (l.getD (l.length - 1) [])).toArray)] wD_ := by
            intro wD_ HD_
            rw [hXd_]
            have hS211 : Hp w [] [.row A14 l.length c15 24 32 (by8 (flat8 l))] wD_ := HD_.sub (List.Sublist.cons_cons _ (List.Sublist.slnil))
            refine GP.all2 0 9 (by kernel_rfl) ?_ ?_
            · skip
              have hS212 : Hp w [] [.row A14 l.length c15 24 32 (by8 (flat8 l))] wD_ := HD_.sub (List.Sublist.cons_cons _ (List.Sublist.slnil))
              obtain ⟨p213, w214, r215, H216⟩ := HD_.madeRow (P := Try.prog) (Instr.buildSlice 22 0 #[]) (fun b_ => .slice (some ⟨b_, 0, none⟩) 0 0) [] 25 0 0 32 (by kernel_rfl) (by decide) (by decide) rfl
              have H216 : Hp w [] [.row A14 l.length c15 24 32 (by8 (flat8 l)), .row (some ⟨p213, 0, none⟩) 0 0 25 32 (by8 (flat8 []))] w214 := H216
              have hS217 : Hp w [] [.row A14 l.length c15 24 32 (by8 (flat8 l))] w214 := H216.sub (List.Sublist.cons_cons _ (List.Sublist.cons _ (List.Sublist.slnil)))
              refine GO.made r215 [0, 38, 39, 46] [(0, .slice A l.length c), (38, .slice (some ⟨p213, 0, none⟩) 0 0), (39, .slice A l.length c), (46, .agg (by8 (l.getD (l.length - 1) [])).toArray)] (by kernel_rfl) (by kernel_rfl) hS217 ?_
              refine GP.perm [1, 3, 4, 5, 6, 7, 8, 0] (by kernel_rfl) rfl ?_
              rw [← hXd_]
              exact st73 _ p213 H216
            · skip
              have hS218 : Hp w [] [.row A14 l.length c15 24 32 (by8 (flat8 l))] wD_ := HD_.sub (List.Sublist.cons_cons _ (List.Sublist.slnil))
              obtain ⟨p219, w220, r221, H222⟩ := HD_.madeRow (P := Try.prog) (Instr.buildSlice 22 1 #[(0, .agg (by8 (l.getD (l.length - 1) [])).toArray)]) (fun b_ => .slice (some ⟨b_, 0, none⟩) 1 1) (by8 (l.getD (l.length - 1) [])) 25 1 1 32 (built1_22 (l.getD (l.length - 1) []) (by rw [ok32_at hok (by omega)])) (by decide) (by decide) (by rw [by8_length, ok32_at hok (by omega)])
              rw [List.take_of_length_le (show (by8 (l.getD (l.length - 1) [])).length ≤ 1 * 32 from Nat.le_of_eq (by rw [by8_length, ok32_at hok (by omega)]))] at H222
              have H222 : Hp w [] [.row A14 l.length c15 24 32 (by8 (flat8 l)), .row (some ⟨p219, 0, none⟩) 1 1 25 32 (by8 (l.getD (l.length - 1) []))] w220 := H222
              have hS223 : Hp w [] [.row A14 l.length c15 24 32 (by8 (flat8 l))] w220 := H222.sub (List.Sublist.cons_cons _ (List.Sublist.cons _ (List.Sublist.slnil)))
              refine GO.made r221 [0, 39, 47] [(0, .slice A l.length c), (39, .slice A l.length c), (47, .slice (some ⟨p219, 0, none⟩) 1 1)] (by kernel_rfl) (by kernel_rfl) hS223 ?_
              refine GP.perm [1, 3, 4, 5, 6, 7, 8, 9] (by kernel_rfl) rfl ?_
              rw [← hXd_]
              exact st74 _ p219 H222
          exact st72 _ H31
      · skip
        have hb13f := eq_of_beq hb13
        refine GL.run (j := 24) 5 [0, 36] [(0, .slice A l.length c), (36, .bool true)] (by kernel_rfl) rfl ?_
        refine GL.k rfl hK6 (fun _ _ h => h) ?_
        refine G.yes rfl ?_
        refine G.seqK fun K224 hK225 => ?_
        refine G.region ?_
        refine GL.call (j := 1) (lives_calls w7) (by kernel_rfl) rfl (fun e_ w226 hR => ?_)
        obtain ⟨rfl, H228⟩ := hR
        have H227 : Hp w [] [] w226 := H8.callNil H228
        refine ⟨_, rfl, [37], [(37, .bool true)], by kernel_rfl, ?_⟩
        refine GL.run (j := 2) 1 [2] [(2, .bool true)] (by kernel_rfl) rfl ?_
        refine GL.k rfl hK225 (fun _ _ h => h) ?_
        refine G.ret ?_
        intro F_ hF_ hM_
        refine hRet _ _ (bodyPost_1 rfl (RV.tmp rfl) ?_ F_ hF_ hM_)
        exact ⟨rfl, H227.sub (List.nil_sublist _)⟩
    · skip
      have hb11f := of_decide_eq_true hb11
      refine GL.run (j := 24) 11 [0, 36] [(0, .slice A l.length c), (36, .bool true)] (by kernel_rfl) rfl ?_
      refine GL.k rfl hK6 (fun _ _ h => h) ?_
      refine G.yes rfl ?_
      refine G.seqK fun K229 hK230 => ?_
      refine G.region ?_
      refine GL.call (j := 1) (lives_calls w7) (by kernel_rfl) rfl (fun e_ w231 hR => ?_)
      obtain ⟨rfl, H233⟩ := hR
      have H232 : Hp w [] [] w231 := H8.callNil H233
      refine ⟨_, rfl, [37], [(37, .bool true)], by kernel_rfl, ?_⟩
      refine GL.run (j := 2) 1 [2] [(2, .bool true)] (by kernel_rfl) rfl ?_
      refine GL.k rfl hK230 (fun _ _ h => h) ?_
      refine G.ret ?_
      intro F_ hF_ hM_
      refine hRet _ _ (bodyPost_1 rfl (RV.tmp rfl) ?_ F_ hF_ hM_)
      exact ⟨rfl, H232.sub (List.nil_sublist _)⟩
  · skip
    have hb10f := of_decide_eq_true hb10
    refine GL.run (j := 24) 16 [0, 36] [(0, .slice A l.length c), (36, .bool true)] (by kernel_rfl) rfl ?_
    refine GL.k rfl hK6 (fun _ _ h => h) ?_
    refine G.yes rfl ?_
    refine G.seqK fun K234 hK235 => ?_
    refine G.region ?_
    refine GL.call (j := 1) (lives_calls w7) (by kernel_rfl) rfl (fun e_ w236 hR => ?_)
    obtain ⟨rfl, H238⟩ := hR
    have H237 : Hp w [] [] w236 := H8.callNil H238
    refine ⟨_, rfl, [37], [(37, .bool true)], by kernel_rfl, ?_⟩
    refine GL.run (j := 2) 1 [2] [(2, .bool true)] (by kernel_rfl) rfl ?_
    refine GL.k rfl hK235 (fun _ _ h => h) ?_
    refine G.ret ?_
    intro F_ hF_ hM_
    refine hRet _ _ (bodyPost_1 rfl (RV.tmp rfl) ?_ F_ hF_ hM_)
    exact ⟨rfl, H237.sub (List.nil_sublist _)⟩
end Go.Proofs.Ytgmggjnoegelgaa
namespace Go.Proofs.Ytgmggjnoegelgaa
open Go.ChangeShapes Go.WideShapes Go.ChangeAt Go.RowKit
open Go.ChangeMaps (open_string shut_string)
set_option linter.unusedVariables false
theorem merkleDefends_own : ownKnob Try.prog.godebug = none := by kernel_rfl
theorem merkleDefends_laidOut : laidOutB Try.prog = true := by kernel_rfl
set_option maxRecDepth 100000 in
theorem merkleDefends_lifted (os : Os) (started : os.Started) (H : Type) (enc : TypeId × Value → H) :
    ReturnsInHanded {} Try.checked os 4 .any (Rows.merkleDefendsSpec.pre6 enc Try.prog Try.f4 Rows.merkleDefendsRow.domain false) (Rows.merkleDefendsSpec.post enc Try.prog Try.f4 false true false false) := by
  refine returnsInHanded_of_change (C := Try.checked) merkleDefends_own started (by kernel_rfl) Try.func4
    (ChangeSpec.witness6 (enc := enc) (C := Try.checked) false ⟨#[], #[.slice none 0 0], []⟩ 12 (by kernel_rfl) (by kernel_rfl) (by kernel_rfl) (by kernel_rfl)) ?_
  intro W base args ds gs before hval0 hW hcnd _
  have hval : ∀ (j : Nat) t v, Try.f4.params[j]? = some t → args[j]? = some v → Value.okWide Try.prog W .any base t v := hval0
  have hW' := hW
  obtain ⟨p, q, hA0, hV, rfl, hfz, hnd⟩ := hW
  have hA : DataW.TrodAll enc Try.prog W 0 (fun _ => true) true Try.f4.params.toList args.toList ds p := hA0
  rw [Try.params4] at hA hval
  obtain ⟨v0, vs0, d0, ds0, p0, q0, hargs, rfl, rfl, h0, r0⟩ := trodAll_cons hA
  obtain ⟨rfl, rfl, rfl⟩ := trodAll_nil r0
  obtain rfl : args = #[v0] := by cases args; simp_all
  obtain ⟨rfl, rfl⟩ := trodVars_none hV
  have k0 := h0
  have lt0 : ∀ x ∈ p0, x.block < W.heap.size := by obtain ⟨m, hm⟩ := k0; exact DataW.trod_lt m _ _ _ hm
  obtain ⟨a0, len0, cap0, rfl⟩ := okWide_slice Try.underlying22 (hval 0 22 _ rfl rfl)
  obtain ⟨fu0, hfz0⟩ := h0
  obtain ⟨A0, l0, c0, hcs0, rd0, ok0, hnc0, hcm0⟩ := open_hashes Try.underlying22 (by kernel_rfl) (by kernel_rfl) (by kernel_rfl) Try.underlying5 hfz0
  simp [Value.cells] at hcs0
  obtain ⟨rfl, rfl, rfl⟩ := hcs0
  clear hA0 hval0
  refine (MerkleDefends_calls a0 cap0 l0 W rd0 ok0 hnc0).mono fun e W' ⟨he, hh⟩ => ?_
  have bel := hh.below
  subst he
  exact ⟨_, rfl, _, _, _, [], _, [], hW', trodAll_mk1 (shut_bool Try.underlying4 _), (trodAll_cons_mk (Below.trod merkleDefends_laidOut (by kernel_rfl) (of_decide_eq_true (by kernel_rfl)) k0 bel lt0) trodAll_mk0), rfl, bel.frame _, fun h => by cases h⟩
theorem merkleDefends_over : Rows.merkleDefendsRow.holds Try.pinned (OpenSpec.ofChange Rows.merkleDefendsSpec) :=
  OpenClaim.holds_of_wide 4 Try.f4 rfl rfl rfl rfl rfl rfl rfl ⟨rfl, rfl, rfl, rfl, rfl⟩ rfl rfl rfl rfl rfl (by kernel_rfl) Try.func4 (by kernel_rfl)
    (of_decide_eq_true (by kernel_rfl)) (by unfold Func.isWrapper; first | (rw [if_pos (by decide +kernel)]; kernel_rfl) | (rw [if_neg (by decide +kernel)]; exact ⟨rfl, rfl⟩))
    (fun os started H enc _ => merkleDefends_lifted os started H enc)
theorem merkleDefends_proved : Rows.MerkleDefendsSaid := merkleDefends_over
end Go.Proofs.Ytgmggjnoegelgaa
