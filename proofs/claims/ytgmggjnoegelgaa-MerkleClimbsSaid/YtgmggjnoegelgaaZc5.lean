/- MerkleClimbs: the row. -/
import Derived.Test.YtgmggjnoegelgaaZc4
namespace Go.Proofs.Ytgmggjnoegelgaa
open Go.RowKit
theorem cntH_le (n : Nat) : cntH n ≤ n := by
  induction n using Nat.strongRecOn with
  | _ n ih =>
    by_cases h : n ≤ 1
    · rw [cntH_one h]; omega
    · have := ih ((n + 1) / 2) (by omega)
      rw [cntH_step (by omega)]
      omega
def rowsN (n : Nat) : Nat := if leafB (n : Int) = true then cntH n else 0
theorem Rows_calls (n : Nat) (w : World) : Calls Try.prog 11 #[.int .i64 (n : Int)] w fun e w' => e = .returned (.int .i64 ((rowsN n : Nat) : Int)) ∧ Hp w [] [] w' := by
  refine calls_G (args := [.int .i64 (n : Int)]) Try.func11 rfl Try.ntmps11 rfl ?_
  intro Q0 hRet hNor hPan
  have H := Hp.start w
  have H : Hp w [] [] w := H
  refine G.seqK fun K1 hK2 => ?_
  refine G.region ?_
  refine GL.run (j := 1) 1 [0] [(0, .int .i64 (n : Int))] (by kernel_rfl) rfl ?_
  refine GL.k rfl hK2 (fun _ _ h => h) ?_
  refine G.seqK fun K3 hK4 => ?_
  refine G.seqK fun K5 hK6 => ?_
  refine G.region ?_
  refine GL.run (j := 1) 1 [0, 4] [(0, .int .i64 (n : Int)), (4, .int .i64 (n : Int))] (by kernel_rfl) rfl ?_
  refine GL.call (j := 2) (Leaves_calls (n : Int) w) (by kernel_rfl) rfl (fun e_ w7 hR => ?_)
  obtain ⟨rfl, H9⟩ := hR
  have H8 : Hp w [] [] w7 := H.callNil H9
  refine ⟨_, rfl, [0, 5], [(0, .int .i64 (n : Int)), (5, .bool (leafB (n : Int)))], by kernel_rfl, ?_⟩
  refine GL.run (j := 3) 1 [0, 6] [(0, .int .i64 (n : Int)), (6, .bool (!(leafB (n : Int))))] (by kernel_rfl) rfl ?_
  refine GL.k rfl hK6 (fun _ _ h => h) ?_
  cases hb10 : (leafB (n : Int))
  · skip
    have hlb : leafB (n : Int) = false := hb10
    refine G.yes rfl ?_
    refine G.seqK fun K11 hK12 => ?_
    refine G.region ?_
    refine GL.run (j := 1) 1 [2] [(2, .int .i64 0)] (by kernel_rfl) rfl ?_
    refine GL.k rfl hK12 (fun _ _ h => h) ?_
    refine G.ret ?_
    intro F_ hF_ hM_
    refine hRet _ _ (bodyPost_1 rfl (RV.tmp rfl) ?_ F_ hF_ hM_)
    have e0 : rowsN n = 0 := by unfold rowsN; rw [hlb, if_neg (by decide)]
    rw [e0]
    exact ⟨rfl, H8.sub (List.nil_sublist _)⟩
  · skip
    have hlb : leafB (n : Int) = true := hb10
    have hlf : 1 ≤ n ∧ n ≤ 65536 := by have h_ := of_decide_eq_true (show leafB (n : Int) = true from hb10); omega
    refine G.no rfl ?_
    refine G.skipK hK4 (fun _ _ h => h) ?_
    refine G.seqK fun K13 hK14 => ?_
    refine G.region ?_
    refine GL.run (j := 1) 1 [0, 3] [(0, .int .i64 (n : Int)), (3, .int .i64 0)] (by kernel_rfl) rfl ?_
    refine GL.k rfl hK14 (fun _ _ h => h) ?_
    refine G.seqK fun K15 hK16 => ?_
    refine G.block ?_
    refine G.fit [0, 3] (M' := [(0, .int .i64 (n : Int)), (3, .int .i64 0)]) (by kernel_rfl) ?_
    refine G.loop (X := Nat × Nat) (fun ⟨m, r⟩ => [(0, .int .i64 (m : Int)), (3, .int .i64 (r : Int))]) (fun ⟨m, r⟩ w_ => (r + cntH m = cntH n ∧ m ≤ 65536 ∧ 0 < m) ∧ Hp w [] [] w_) (fun ⟨m, r⟩ => m) ⟨n, 0⟩ [0, 3] (by kernel_rfl) ⟨⟨Nat.zero_add _, by omega, by omega⟩, H8⟩ ?_
    rintro ⟨m, r⟩ w17 ⟨hi18, H19⟩
    refine G.eq (M' := [(0, .int .i64 (m : Int)), (3, .int .i64 (r : Int))]) rfl ?_
    have H19 : Hp w [] [] w17 := H19
    obtain ⟨hcnt, hm16, hm0⟩ := hi18
    have hcl := cntH_le n
    refine G.seqK fun K20 hK21 => ?_
    refine G.seqK fun K22 hK23 => ?_
    refine G.region ?_
    refine GL.run (j := 2) 2 [0, 3, 8] [(0, .int .i64 (m : Int)), (3, .int .i64 (r : Int)), (8, .bool (decide (1 < (m : Int))))] (by kernel_rfl) rfl ?_
    refine GL.k rfl hK23 (fun _ _ h => h) ?_
    cases hb24 : (decide (1 < (m : Int)))
    · skip
      have hb24f := of_decide_eq_false hb24
      refine G.no rfl ?_
      refine G.exitK hK16 (fun _ _ h => h) ?_
      refine G.seqK fun K25 hK26 => ?_
      refine G.region ?_
      refine GL.run (j := 2) 2 [2] [(2, .int .i64 (r : Int))] (by kernel_rfl) rfl ?_
      refine GL.k rfl hK26 (fun _ _ h => h) ?_
      refine G.ret ?_
      intro F_ hF_ hM_
      refine hRet _ _ (bodyPost_1 rfl (RV.tmp rfl) ?_ F_ hF_ hM_)
      have e0 : rowsN n = r := by unfold rowsN; rw [hlb, if_pos rfl, ← hcnt, cntH_one (by omega), Nat.add_zero]
      rw [e0]
      exact ⟨rfl, H19.sub (List.nil_sublist _)⟩
    · skip
      have hb24f := of_decide_eq_true hb24
      refine G.yes rfl ?_
      refine G.skipK hK21 (fun _ _ h => h) ?_
      refine G.seqK fun K27 hK28 => ?_
      refine G.block ?_
      refine G.region ?_
      refine GL.run (j := 3) 3 [0, 3] [(0, .int .i64 (m : Int)), (3, .int .i64 (IntKind.i64.wrap ((r : Int) + 1)))] (by kernel_rfl) rfl ?_
      have e29 : (IntKind.i64.wrap ((r : Int) + 1)) = ((r + 1 : Nat) : Int) := by rw [in_i64 (by omega)]; omega
      refine GL.eq (M' := [(0, .int .i64 (m : Int)), (3, .int .i64 ((r + 1 : Nat) : Int))]) (by rw [e29]) ?_
      clear e29
      refine GL.k rfl hK28 (fun _ _ h => h) ?_
      refine G.region ?_
      refine GL.run (j := 4) 4 [0, 3] [(0, .int .i64 (IntKind.i64.wrap (Int.tdiv (IntKind.i64.wrap ((m : Int) + 1)) 2))), (3, .int .i64 ((r + 1 : Nat) : Int))] (by kernel_rfl) rfl ?_
      have e30 : (IntKind.i64.wrap ((m : Int) + 1)) = ((m + 1 : Nat) : Int) := by rw [in_i64 (by omega)]; omega
      have e31 : (IntKind.i64.wrap (Int.tdiv ((m + 1 : Nat) : Int) 2)) = ((((m + 1) / 2) : Nat) : Int) := i_quo (a := (m + 1)) 2 (by omega)
      refine GL.eq (M' := [(0, .int .i64 ((((m + 1) / 2) : Nat) : Int)), (3, .int .i64 ((r + 1 : Nat) : Int))]) (by rw [e30, e31]) ?_
      clear e30 e31
      refine GL.fit (ts := [0, 3]) (M' := [(0, .int .i64 ((((m + 1) / 2) : Nat) : Int)), (3, .int .i64 ((r + 1 : Nat) : Int))]) (by kernel_rfl) ?_
      refine GL.eq (M' := [(0, .int .i64 ((((m + 1) / 2) : Nat) : Int)), (3, .int .i64 (((r + 1) : Nat) : Int))]) (by rfl) ?_
      exact GL.again ⟨((m + 1) / 2), (r + 1)⟩ [0, 3] rfl (by kernel_rfl) (by show ((m + 1) / 2) < m; omega) ⟨⟨by rw [Nat.add_assoc, Nat.add_comm 1, ← cntH_step (by omega)]; exact hcnt, by omega, by omega⟩, H19⟩
def ha : List UInt8 := [191, 93, 58, 255, 183, 62, 253, 46, 198, 195, 106, 211, 17, 45, 217, 51, 239, 237, 99, 196, 225, 203, 255, 207, 168, 142, 39, 89, 193, 68, 242, 216]
theorem ha_is : sha (sha ([97] : List UInt8)) = ha := by
  rw [show sha ([97] : List UInt8) = ([202, 151, 129, 18, 202, 27, 189, 202, 250, 194, 49, 179, 154, 35, 220, 77, 167, 134, 239, 248, 20, 124, 78, 114, 185, 128, 119, 133, 175, 238, 72, 187] : List UInt8) by kernel_rfl]
  kernel_rfl
theorem lives_calls (w : World) : Calls Try.prog 7 #[] w fun e w' => e = .returned (.bool true) ∧ Hp w [] [] w' := by
  refine calls_G (args := []) Try.func7 rfl Try.ntmps7 rfl ?_
  intro Q0 hRet hNor hPan
  have H := Hp.start w
  have H : Hp w [] [] w := H
  refine G.seqK fun K1 hK2 => ?_
  refine G.region ?_
  refine GL.run (j := 1) 1 [] [] (by kernel_rfl) rfl ?_
  refine GL.k rfl hK2 (fun _ _ h => h) ?_
  refine G.seqK fun K3 hK4 => ?_
  refine G.region ?_
  obtain ⟨p5, w6, r7, H8⟩ := H.made (P := Try.prog) (Instr.buildSlice 49 1 #[(0, .int .u8 97)]) (fun b_ => .slice (some ⟨b_, 0, none⟩) 1 1) [.int .u8 97] 5 (by kernel_rfl)
  have H8 : Hp w [] [.blk p5 [.int .u8 97] 5] w6 := H8
  refine GL.sem (j := 1) (r7) [6] [(6, .slice (some ⟨p5, 0, none⟩) 1 1)] (by kernel_rfl) (by kernel_rfl) rfl ?_
  obtain ⟨w9, r10, H11⟩ := H8.mark (P := Try.prog) (o := 0) (T := 49) (n := 1) (c := 1) 0 rfl (by kernel_rfl)
  have H11 : Hp w [] [.blk p5 [.int .u8 97] 5] w9 := H11
  refine GL.sem (j := 2) (r10) [7] [(7, .slice (some ⟨p5, 0, none⟩) 1 1)] (by kernel_rfl) (by kernel_rfl) rfl ?_
  refine GL.call (j := 3) ((by have h_ := Double_calls (some ⟨p5, 0, none⟩) 1 1 ([97] : List UInt8) w9 (H11.rdBlk (o := 0) (xs := by8 ([97] : List UInt8)) 0 1 rfl rfl) rfl (by decide); rw [ha_is] at h_; exact h_)) (by kernel_rfl) rfl (fun e_ w12 hR => ?_)
  obtain ⟨rfl, H14⟩ := hR
  have H13 : Hp w [] [.blk p5 [.int .u8 97] 5] w12 := H11.callNil H14
  refine ⟨_, rfl, [8], [(8, .agg (by8 ha).toArray)], by kernel_rfl, ?_⟩
  obtain ⟨p15, w16, r17, H18⟩ := H13.alloc (P := Try.prog) 25 (by8 (List.replicate 32 0)) (by kernel_rfl)
  have H18 : Hp w [] [.blk p5 [.int .u8 97] 5, .blk p15 (by8 (List.replicate 32 0)) 25] w16 := H18
  refine GL.sem (j := 4) (r17) [1, 8] [(1, pt p15 0), (8, .agg (by8 ha).toArray)] (by kernel_rfl) (by kernel_rfl) rfl ?_
  obtain ⟨w19, r20, H21⟩ := H18.stA (P := Try.prog) (o := 0) (vs := by8 ha) (ty := 25) (m := 32) 1 rfl (by kernel_rfl) (by rw [by8_length, show ha.length = 32 from rfl]) (Nat.le_of_eq (by rw [Nat.zero_add]; exact ((show (by8 (List.replicate 32 0)).length = 32 from by rw [by8_length]; rfl)).symm)) (by8_one _)
  rw [st_whole (by rw [by8_length]; rfl)] at H21
  have H21 : Hp w [] [.blk p5 [.int .u8 97] 5, .blk p15 (by8 ha) 25] w19 := H21
  refine GL.semU (j := 5) r20 [1] [(1, pt p15 0)] (by kernel_rfl) rfl rfl rfl ?_
  refine GL.k rfl hK4 (fun _ _ h => h) ?_
  refine G.seqK fun K22 hK23 => ?_
  refine G.region ?_
  refine GL.sem (j := 1) (H21.ldA (o := 0) (ty := 25) (m := 32) (sub := by8 ha) 1 rfl (by kernel_rfl) (sub_whole (by rw [by8_length, show ha.length = 32 from rfl])) (by rw [by8_length, show ha.length = 32 from rfl])) [1, 10] [(1, pt p15 0), (10, .agg (by8 ha).toArray)] (by kernel_rfl) (by kernel_rfl) rfl ?_
  obtain ⟨p24, w25, r26, H27⟩ := H21.madeRow (P := Try.prog) (Instr.buildSlice 22 1 #[(0, .agg (by8 ha).toArray)]) (fun b_ => .slice (some ⟨b_, 0, none⟩) 1 1) (by8 ha) 25 1 1 32 (built1_22 ha (by rw [show ha.length = 32 from rfl])) (by decide) (by decide) (by rw [by8_length, show ha.length = 32 from rfl])
  rw [List.take_of_length_le (show (by8 ha).length ≤ 1 * 32 from Nat.le_of_eq (by rw [by8_length, show ha.length = 32 from rfl]))] at H27
  rw [show by8 ha = by8 (flat8 [ha]) by simp [flat8]] at H27
  have H27 : Hp w [] [.blk p5 [.int .u8 97] 5, .blk p15 (by8 ha) 25, .row (some ⟨p24, 0, none⟩) 1 1 25 32 (by8 (flat8 [ha]))] w25 := H27
  refine GL.sem (j := 2) (r26) [1, 11] [(1, pt p15 0), (11, .slice (some ⟨p24, 0, none⟩) 1 1)] (by kernel_rfl) (by kernel_rfl) rfl ?_
  refine GL.call (j := 3) (Root_calls (some ⟨p24, 0, none⟩) 1 [ha] w25 (H27.rdRowN 2 rfl) (by intro x hx; simp at hx; subst hx; rfl) (by decide)) (by kernel_rfl) rfl (fun e_ w28 hR => ?_)
  obtain ⟨rfl, H30⟩ := hR
  have H29 : Hp w [] [.blk p5 [.int .u8 97] 5, .blk p15 (by8 ha) 25, .row (some ⟨p24, 0, none⟩) 1 1 25 32 (by8 (flat8 [ha]))] w28 := H27.callNil H30
  refine ⟨_, rfl, [1, 12], [(1, pt p15 0), (12, .tuple #[.agg (by8 (rootV [ha])).toArray, .int .i64 (((rootE [ha]) : Nat) : Int)])], by kernel_rfl, ?_⟩
  refine GL.run (j := 6) 3 [1, 13, 14] [(1, pt p15 0), (13, .agg (by8 (rootV [ha])).toArray), (14, .int .i64 (((rootE [ha]) : Nat) : Int))] (by kernel_rfl) rfl ?_
  obtain ⟨p31, w32, r33, H34⟩ := H29.alloc (P := Try.prog) 25 (by8 (List.replicate 32 0)) (by kernel_rfl)
  have H34 : Hp w [] [.blk p5 [.int .u8 97] 5, .blk p15 (by8 ha) 25, .row (some ⟨p24, 0, none⟩) 1 1 25 32 (by8 (flat8 [ha])), .blk p31 (by8 (List.replicate 32 0)) 25] w32 := H34
  refine GL.sem (j := 7) (r33) [1, 2, 13, 14] [(1, pt p15 0), (2, pt p31 0), (13, .agg (by8 (rootV [ha])).toArray), (14, .int .i64 (((rootE [ha]) : Nat) : Int))] (by kernel_rfl) (by kernel_rfl) rfl ?_
  obtain ⟨w35, r36, H37⟩ := H34.stA (P := Try.prog) (o := 0) (vs := by8 (rootV [ha])) (ty := 25) (m := 32) 3 rfl (by kernel_rfl) (by rw [by8_length, show (rootV [ha]).length = 32 by kernel_rfl]) (Nat.le_of_eq (by rw [Nat.zero_add]; exact ((show (by8 (List.replicate 32 0)).length = 32 from by rw [by8_length]; rfl)).symm)) (by8_one _)
  rw [st_whole (by rw [by8_length]; rfl)] at H37
  have H37 : Hp w [] [.blk p5 [.int .u8 97] 5, .blk p15 (by8 ha) 25, .row (some ⟨p24, 0, none⟩) 1 1 25 32 (by8 (flat8 [ha])), .blk p31 (by8 (rootV [ha])) 25] w35 := H37
  refine GL.semU (j := 8) r36 [1, 2, 14] [(1, pt p15 0), (2, pt p31 0), (14, .int .i64 (((rootE [ha]) : Nat) : Int))] (by kernel_rfl) rfl rfl rfl ?_
  refine GL.run (j := 9) 1 [1, 2, 3] [(1, pt p15 0), (2, pt p31 0), (3, .int .i64 (((rootE [ha]) : Nat) : Int))] (by kernel_rfl) rfl ?_
  refine GL.k rfl hK23 (fun _ _ h => h) ?_
  refine G.seqK fun K38 hK39 => ?_
  refine G.region ?_
  refine GL.sem (j := 1) (H37.ldA (o := 0) (ty := 25) (m := 32) (sub := by8 ha) 1 rfl (by kernel_rfl) (sub_whole (by rw [by8_length, show ha.length = 32 from rfl])) (by rw [by8_length, show ha.length = 32 from rfl])) [1, 2, 3, 16] [(1, pt p15 0), (2, pt p31 0), (3, .int .i64 (((rootE [ha]) : Nat) : Int)), (16, .agg (by8 ha).toArray)] (by kernel_rfl) (by kernel_rfl) rfl ?_
  refine GL.sem (j := 2) (H37.ldA (o := 0) (ty := 25) (m := 32) (sub := by8 ha) 1 rfl (by kernel_rfl) (sub_whole (by rw [by8_length, show ha.length = 32 from rfl])) (by rw [by8_length, show ha.length = 32 from rfl])) [1, 2, 3, 16, 17] [(1, pt p15 0), (2, pt p31 0), (3, .int .i64 (((rootE [ha]) : Nat) : Int)), (16, .agg (by8 ha).toArray), (17, .agg (by8 ha).toArray)] (by kernel_rfl) (by kernel_rfl) rfl ?_
  refine GL.sem (j := 3) (H37.ldA (o := 0) (ty := 25) (m := 32) (sub := by8 ha) 1 rfl (by kernel_rfl) (sub_whole (by rw [by8_length, show ha.length = 32 from rfl])) (by rw [by8_length, show ha.length = 32 from rfl])) [1, 2, 3, 16, 17, 18] [(1, pt p15 0), (2, pt p31 0), (3, .int .i64 (((rootE [ha]) : Nat) : Int)), (16, .agg (by8 ha).toArray), (17, .agg (by8 ha).toArray), (18, .agg (by8 ha).toArray)] (by kernel_rfl) (by kernel_rfl) rfl ?_
  obtain ⟨p40, w41, r42, H43⟩ := H37.madeRow (P := Try.prog) (Instr.buildSlice 22 3 #[(0, .agg (by8 ha).toArray), (1, .agg (by8 ha).toArray), (2, .agg (by8 ha).toArray)]) (fun b_ => .slice (some ⟨b_, 0, none⟩) 3 3) (by8 (flat8 [ha, ha, ha])) 25 3 3 32 (built3_22 ha (by rw [show ha.length = 32 from rfl])) (by decide) (by decide) (by rw [by8_length, flat8_length (by intro x hx; simp at hx; subst hx; rw [show ha.length = 32 from rfl])]; rfl)
  rw [List.take_of_length_le (show (by8 (flat8 [ha, ha, ha])).length ≤ 3 * 32 from Nat.le_of_eq (by rw [by8_length, flat8_length (by intro x hx; simp at hx; subst hx; rw [show ha.length = 32 from rfl])]; rfl))] at H43
  have H43 : Hp w [] [.blk p5 [.int .u8 97] 5, .blk p15 (by8 ha) 25, .row (some ⟨p24, 0, none⟩) 1 1 25 32 (by8 (flat8 [ha])), .blk p31 (by8 (rootV [ha])) 25, .row (some ⟨p40, 0, none⟩) 3 3 25 32 (by8 (flat8 [ha, ha, ha]))] w41 := H43
  refine GL.sem (j := 4) (r42) [1, 2, 3, 19] [(1, pt p15 0), (2, pt p31 0), (3, .int .i64 (((rootE [ha]) : Nat) : Int)), (19, .slice (some ⟨p40, 0, none⟩) 3 3)] (by kernel_rfl) (by kernel_rfl) rfl ?_
  refine GL.call (j := 5) (Way_calls (some ⟨p40, 0, none⟩) 3 [ha, ha, ha] 2 w41 (H43.rdRowN 4 rfl) (by intro x hx; simp at hx; subst hx; rfl) (by decide) (by decide)) (by kernel_rfl) rfl (fun e_ w46 hR => ?_)
  obtain ⟨A44, c45, rfl, H48⟩ := hR
  have H47 : Hp w [] [.blk p5 [.int .u8 97] 5, .blk p15 (by8 ha) 25, .row (some ⟨p24, 0, none⟩) 1 1 25 32 (by8 (flat8 [ha])), .blk p31 (by8 (rootV [ha])) 25, .row (some ⟨p40, 0, none⟩) 3 3 25 32 (by8 (flat8 [ha, ha, ha])), .row A44 ((wayV [ha, ha, ha] 2).length) c45 25 32 (by8 (flat8 (wayV [ha, ha, ha] 2)))] w46 := H43.callNew H48
  refine ⟨_, rfl, [1, 2, 3, 20], [(1, pt p15 0), (2, pt p31 0), (3, .int .i64 (((rootE [ha]) : Nat) : Int)), (20, .tuple #[.slice A44 ((wayV [ha, ha, ha] 2).length) c45, .int .i64 (((wayE [ha, ha, ha] 2) : Nat) : Int)])], by kernel_rfl, ?_⟩
  refine GL.run (j := 10) 5 [1, 2, 3, 4, 5] [(1, pt p15 0), (2, pt p31 0), (3, .int .i64 (((rootE [ha]) : Nat) : Int)), (4, .slice A44 ((wayV [ha, ha, ha] 2).length) c45), (5, .int .i64 (((wayE [ha, ha, ha] 2) : Nat) : Int))] (by kernel_rfl) rfl ?_
  refine GL.k rfl hK39 (fun _ _ h => h) ?_
  refine G.seqK fun K49 hK50 => ?_
  refine G.region ?_
  refine GL.run (j := 3) 3 [1, 2, 4, 5, 25] [(1, pt p15 0), (2, pt p31 0), (4, .slice A44 ((wayV [ha, ha, ha] 2).length) c45), (5, .int .i64 (((wayE [ha, ha, ha] 2) : Nat) : Int)), (25, .bool ((((rootE [ha]) : Nat) : Int) == 0))] (by kernel_rfl) rfl ?_
  have hb51 : ((((rootE [ha]) : Nat) : Int) == 0) = true := by kernel_rfl
  rw [hb51]
  refine GL.run (j := 7) 4 [1, 2, 4, 29] [(1, pt p15 0), (2, pt p31 0), (4, .slice A44 ((wayV [ha, ha, ha] 2).length) c45), (29, .bool ((((wayE [ha, ha, ha] 2) : Nat) : Int) == 0))] (by kernel_rfl) rfl ?_
  have hb52 : ((((wayE [ha, ha, ha] 2) : Nat) : Int) == 0) = true := by kernel_rfl
  rw [hb52]
  refine GL.sem (j := 8) (H47.ldA (o := 0) (ty := 25) (m := 32) (sub := by8 (rootV [ha])) 3 rfl (by kernel_rfl) (sub_whole (by rw [by8_length, show (rootV [ha]).length = 32 by kernel_rfl])) (by rw [by8_length, show (rootV [ha]).length = 32 by kernel_rfl])) [1, 4, 29, 30] [(1, pt p15 0), (4, .slice A44 ((wayV [ha, ha, ha] 2).length) c45), (29, .bool true), (30, .agg (by8 (rootV [ha])).toArray)] (by kernel_rfl) (by kernel_rfl) rfl ?_
  refine GL.sem (j := 9) (H47.ldA (o := 0) (ty := 25) (m := 32) (sub := by8 ha) 1 rfl (by kernel_rfl) (sub_whole (by rw [by8_length, show ha.length = 32 from rfl])) (by rw [by8_length, show ha.length = 32 from rfl])) [1, 4, 29, 30, 31] [(1, pt p15 0), (4, .slice A44 ((wayV [ha, ha, ha] 2).length) c45), (29, .bool true), (30, .agg (by8 (rootV [ha])).toArray), (31, .agg (by8 ha).toArray)] (by kernel_rfl) (by kernel_rfl) rfl ?_
  refine GL.sem (j := 10) (run_by8_eql (P := Try.prog) (t := 25) (n := 32) (x := (.tmp 30)) (y := (.tmp 31)) (by kernel_rfl) (rootV [ha]) ha (by rw [show (rootV [ha]).length = 32 by kernel_rfl]) (by rw [show ha.length = 32 from rfl]) _) [1, 4, 29, 32] [(1, pt p15 0), (4, .slice A44 ((wayV [ha, ha, ha] 2).length) c45), (29, .bool true), (32, .bool (decide ((rootV [ha]) = ha)))] (by kernel_rfl) (by kernel_rfl) rfl ?_
  refine GL.run (j := 12) 2 [1, 4, 34] [(1, pt p15 0), (4, .slice A44 ((wayV [ha, ha, ha] 2).length) c45), (34, .bool (decide ((rootV [ha]) = ha)))] (by kernel_rfl) rfl ?_
  have hb53 : (decide ((rootV [ha]) = ha)) = true := by kernel_rfl
  rw [hb53]
  refine GL.sem (j := 13) (H47.ldA (o := 0) (ty := 25) (m := 32) (sub := by8 ha) 1 rfl (by kernel_rfl) (sub_whole (by rw [by8_length, show ha.length = 32 from rfl])) (by rw [by8_length, show ha.length = 32 from rfl])) [4, 34, 35] [(4, .slice A44 ((wayV [ha, ha, ha] 2).length) c45), (34, .bool true), (35, .agg (by8 ha).toArray)] (by kernel_rfl) (by kernel_rfl) rfl ?_
  refine GL.call (j := 14) (Zero_calls ha (by rw [show ha.length = 32 from rfl]) w46) (by kernel_rfl) rfl (fun e_ w54 hR => ?_)
  obtain ⟨rfl, H56⟩ := hR
  have H55 : Hp w [] [.blk p5 [.int .u8 97] 5, .blk p15 (by8 ha) 25, .row (some ⟨p24, 0, none⟩) 1 1 25 32 (by8 (flat8 [ha])), .blk p31 (by8 (rootV [ha])) 25, .row (some ⟨p40, 0, none⟩) 3 3 25 32 (by8 (flat8 [ha, ha, ha])), .row A44 ((wayV [ha, ha, ha] 2).length) c45 25 32 (by8 (flat8 (wayV [ha, ha, ha] 2)))] w54 := H47.callNil H56
  refine ⟨_, rfl, [4, 34, 36], [(4, .slice A44 ((wayV [ha, ha, ha] 2).length) c45), (34, .bool true), (36, .bool (decide (ha = (List.replicate 32 0))))], by kernel_rfl, ?_⟩
  refine GL.run (j := 17) 3 [4, 39] [(4, .slice A44 ((wayV [ha, ha, ha] 2).length) c45), (39, .bool (!(decide (ha = (List.replicate 32 0)))))] (by kernel_rfl) rfl ?_
  have hb57 : (!(decide (ha = (List.replicate 32 0)))) = true := by rw [show (decide (ha = (List.replicate 32 0))) = false from by kernel_rfl]; rfl
  rw [hb57]
  refine GL.run (j := 22) 5 [0] [(0, .bool ((((wayV [ha, ha, ha] 2).length : Nat) : Int) == 2))] (by kernel_rfl) rfl ?_
  refine GL.k rfl hK50 (fun _ _ h => h) ?_
  refine G.ret ?_
  intro F_ hF_ hM_
  refine hRet _ _ (bodyPost_1 rfl (RV.tmp rfl) ?_ F_ hF_ hM_)
  have hb58 : ((((wayV [ha, ha, ha] 2).length : Nat) : Int) == 2) = true := by kernel_rfl
  rw [hb58]
  exact ⟨rfl, H55.sub (List.nil_sublist _)⟩
theorem take_snoc8 {X : List UInt8} {k : Nat} (h : k < X.length) : List.take (k + 1) X = List.take k X ++ [X.getD k 0] := by
  rw [List.take_add_one, getD8 h]
  rfl
theorem RefBoth_calls (X Y : List UInt8) (hX : X.length = 32) (hY : Y.length = 32) (w : World) : Calls Try.prog 20 #[.agg (by8 X).toArray, .agg (by8 Y).toArray] w fun e w' => e = .returned (.agg (by8 (bothH X Y)).toArray) ∧ Hp w [] [] w' := by
  refine calls_G (args := [.agg (by8 X).toArray, .agg (by8 Y).toArray]) Try.func20 rfl Try.ntmps20 rfl ?_
  intro Q0 hRet hNor hPan
  have H := Hp.start w
  have H : Hp w [] [] w := H
  refine G.seqK fun K1 hK2 => ?_
  refine G.region ?_
  obtain ⟨p3, w4, r5, H6⟩ := H.box (P := Try.prog) 24 (by8 X) (.agg (by8 X).toArray) rfl
  have H6 : Hp w [] [.blk p3 (by8 X) 24] w4 := H6
  refine GL.sem (j := 1) (r5) [1, 2] [(1, .agg (by8 Y).toArray), (2, pt p3 0)] (by kernel_rfl) (by kernel_rfl) rfl ?_
  obtain ⟨p7, w8, r9, H10⟩ := H6.box (P := Try.prog) 24 (by8 Y) (.agg (by8 Y).toArray) rfl
  have H10 : Hp w [] [.blk p3 (by8 X) 24, .blk p7 (by8 Y) 24] w8 := H10
  refine GL.sem (j := 2) (r9) [2, 3] [(2, pt p3 0), (3, pt p7 0)] (by kernel_rfl) (by kernel_rfl) rfl ?_
  obtain ⟨p11, w12, r13, H14⟩ := H10.alloc (P := Try.prog) 24 (by8 (List.replicate 32 0)) (by kernel_rfl)
  have H14 : Hp w [] [.blk p3 (by8 X) 24, .blk p7 (by8 Y) 24, .blk p11 (by8 (List.replicate 32 0)) 24] w12 := H14
  refine GL.sem (j := 3) (r13) [2, 3, 4] [(2, pt p3 0), (3, pt p7 0), (4, pt p11 0)] (by kernel_rfl) (by kernel_rfl) rfl ?_
  refine GL.k rfl hK2 (fun _ _ h => h) ?_
  refine G.seqK fun K15 hK16 => ?_
  refine G.region ?_
  obtain ⟨p17, w18, r19, H20⟩ := H14.madeRow (P := Try.prog) (Instr.buildSlice 49 0 #[]) (fun b_ => .slice (some ⟨b_, 0, none⟩) 0 0) [] 5 0 0 1 (by kernel_rfl) (by decide) (by decide) rfl
  have H20 : Hp w [] [.blk p3 (by8 X) 24, .blk p7 (by8 Y) 24, .blk p11 (by8 (List.replicate 32 0)) 24, .row (some ⟨p17, 0, none⟩) 0 0 5 1 (by8 ([] : List UInt8))] w18 := H20
  refine GL.sem (j := 1) (r19) [2, 3, 4, 8] [(2, pt p3 0), (3, pt p7 0), (4, pt p11 0), (8, .slice (some ⟨p17, 0, none⟩) 0 0)] (by kernel_rfl) (by kernel_rfl) rfl ?_
  refine GL.run (j := 2) 1 [2, 3, 4, 5] [(2, pt p3 0), (3, pt p7 0), (4, pt p11 0), (5, .slice (some ⟨p17, 0, none⟩) 0 0)] (by kernel_rfl) rfl ?_
  refine GL.k rfl hK16 (fun _ _ h => h) ?_
  refine G.seqK fun K21 hK22 => ?_
  refine G.seqK fun K23 hK24 => ?_
  refine G.region ?_
  refine GL.run (j := 1) 1 [2, 3, 4, 5, 9] [(2, pt p3 0), (3, pt p7 0), (4, pt p11 0), (5, .slice (some ⟨p17, 0, none⟩) 0 0), (9, .int .i64 0)] (by kernel_rfl) rfl ?_
  refine GL.k rfl hK24 (fun _ _ h => h) ?_
  refine G.block ?_
  have H25 : Hp w [] [.blk p3 (by8 X) 24, .blk p7 (by8 Y) 24, .blk p11 (by8 (List.replicate 32 0)) 24, .row (some ⟨p17, 0, none⟩) 0 0 5 1 (by8 (List.take 0 X))] w18 := H20
  refine G.fit [2, 3, 4, 5, 9] (M' := [(2, pt p3 0), (3, pt p7 0), (4, pt p11 0), (5, .slice (some ⟨p17, 0, none⟩) 0 0), (9, .int .i64 0)]) (by kernel_rfl) ?_
  refine G.loop (X := Nat × Option Addr × Nat) (fun ⟨k, A_, c_⟩ => [(2, pt p3 0), (3, pt p7 0), (4, pt p11 0), (5, .slice A_ k c_), (9, .int .i64 (k : Int))]) (fun ⟨k, A_, c_⟩ w_ => (k ≤ 32) ∧ Hp w [] [.blk p3 (by8 X) 24, .blk p7 (by8 Y) 24, .blk p11 (by8 (List.replicate 32 0)) 24, .row A_ k c_ 5 1 (by8 (List.take k X))] w_) (fun ⟨k, A_, c_⟩ => 32 - k) ⟨0, (some ⟨p17, 0, none⟩), 0⟩ [2, 3, 4, 5, 9] (by kernel_rfl) ⟨by omega, H25⟩ ?_
  rintro ⟨k, A_, c_⟩ w26 ⟨hi27, H28⟩
  refine G.eq (M' := [(2, pt p3 0), (3, pt p7 0), (4, pt p11 0), (5, .slice A_ k c_), (9, .int .i64 (k : Int))]) rfl ?_
  have H28 : Hp w [] [.blk p3 (by8 X) 24, .blk p7 (by8 Y) 24, .blk p11 (by8 (List.replicate 32 0)) 24, .row A_ k c_ 5 1 (by8 (List.take k X))] w26 := H28
  have hk32 := hi27
  refine G.seqK fun K29 hK30 => ?_
  refine G.region ?_
  refine GL.run (j := 1) 1 [2, 3, 4, 5, 9, 10] [(2, pt p3 0), (3, pt p7 0), (4, pt p11 0), (5, .slice A_ k c_), (9, .int .i64 (k : Int)), (10, .bool (decide ((k : Int) < 32)))] (by kernel_rfl) rfl ?_
  refine GL.k rfl hK30 (fun _ _ h => h) ?_
  refine G.seqK fun K31 hK32 => ?_
  cases hb33 : (decide ((k : Int) < 32))
  · skip
    have hb33f := of_decide_eq_false hb33
    refine G.no rfl ?_
    refine G.exitK hK22 (fun _ _ h => h) ?_
    refine G.seqK fun K34 hK35 => ?_
    refine G.seqK fun K36 hK37 => ?_
    refine G.region ?_
    refine GL.run (j := 1) 1 [3, 4, 5, 19] [(3, pt p7 0), (4, pt p11 0), (5, .slice A_ k c_), (19, .int .i64 0)] (by kernel_rfl) rfl ?_
    refine GL.k rfl hK37 (fun _ _ h => h) ?_
    refine G.block ?_
    obtain rfl : k = 32 := by omega
    have H38 : Hp w [] [.blk p3 (by8 X) 24, .blk p7 (by8 Y) 24, .blk p11 (by8 (List.replicate 32 0)) 24, .row A_ (32 + 0) c_ 5 1 (by8 (X ++ List.take 0 Y))] w26 := (by have h_ := H28; rw [List.take_of_length_le (l := X) (by omega)] at h_; rw [List.take_zero, List.append_nil]; exact h_)
    refine G.fit [3, 4, 5, 19] (M' := [(3, pt p7 0), (4, pt p11 0), (5, .slice A_ (32 + 0) c_), (19, .int .i64 0)]) (by kernel_rfl) ?_
    refine G.loop (X := Nat × Option Addr × Nat) (fun ⟨k, A_, c_⟩ => [(3, pt p7 0), (4, pt p11 0), (5, .slice A_ (32 + k) c_), (19, .int .i64 (k : Int))]) (fun ⟨k, A_, c_⟩ w_ => (k ≤ 32) ∧ Hp w [] [.blk p3 (by8 X) 24, .blk p7 (by8 Y) 24, .blk p11 (by8 (List.replicate 32 0)) 24, .row A_ (32 + k) c_ 5 1 (by8 (X ++ List.take k Y))] w_) (fun ⟨k, A_, c_⟩ => 32 - k) ⟨0, A_, c_⟩ [3, 4, 5, 19] (by kernel_rfl) ⟨by omega, H38⟩ ?_
    rintro ⟨k, A_, c_⟩ w39 ⟨hi40, H41⟩
    refine G.eq (M' := [(3, pt p7 0), (4, pt p11 0), (5, .slice A_ (32 + k) c_), (19, .int .i64 (k : Int))]) rfl ?_
    have H41 : Hp w [] [.blk p3 (by8 X) 24, .blk p7 (by8 Y) 24, .blk p11 (by8 (List.replicate 32 0)) 24, .row A_ (32 + k) c_ 5 1 (by8 (X ++ List.take k Y))] w39 := H41
    have hk32 := hi40
    refine G.seqK fun K42 hK43 => ?_
    refine G.region ?_
    refine GL.run (j := 1) 1 [3, 4, 5, 19, 20] [(3, pt p7 0), (4, pt p11 0), (5, .slice A_ (32 + k) c_), (19, .int .i64 (k : Int)), (20, .bool (decide ((k : Int) < 32)))] (by kernel_rfl) rfl ?_
    refine GL.k rfl hK43 (fun _ _ h => h) ?_
    refine G.seqK fun K44 hK45 => ?_
    cases hb46 : (decide ((k : Int) < 32))
    · skip
      have hb46f := of_decide_eq_false hb46
      refine G.no rfl ?_
      refine G.exitK hK35 (fun _ _ h => h) ?_
      refine G.seqK fun K47 hK48 => ?_
      refine G.region ?_
      refine GL.run (j := 1) 1 [4, 29] [(4, pt p11 0), (29, .slice A_ (32 + k) c_)] (by kernel_rfl) rfl ?_
      refine GL.call (j := 2) (RefDouble_calls A_ (32 + k) c_ (X ++ List.take k Y) w39 (H41.rdRow 3 rfl) (by rw [List.length_append, List.length_take, hX, hY]; omega) (by rw [List.length_append, List.length_take, hX, hY]; omega)) (by kernel_rfl) rfl (fun e_ w49 hR => ?_)
      obtain ⟨rfl, H51⟩ := hR
      have H50 : Hp w [] [.blk p3 (by8 X) 24, .blk p7 (by8 Y) 24, .blk p11 (by8 (List.replicate 32 0)) 24, .row A_ (32 + k) c_ 5 1 (by8 (X ++ List.take k Y))] w49 := H41.callNil H51
      refine ⟨_, rfl, [4, 30], [(4, pt p11 0), (30, .agg (by8 (sha (sha (X ++ List.take k Y)))).toArray)], by kernel_rfl, ?_⟩
      obtain ⟨w52, r53, H54⟩ := H50.stA (P := Try.prog) (o := 0) (vs := by8 (sha (sha (X ++ List.take k Y)))) (ty := 24) (m := 32) 2 rfl (by kernel_rfl) (by rw [by8_length, sha_length]) (Nat.le_of_eq (by rw [Nat.zero_add]; exact ((show (by8 (List.replicate 32 0)).length = 32 from by rw [by8_length]; rfl)).symm)) (by8_one _)
      rw [st_whole (by rw [by8_length]; rfl)] at H54
      have H54 : Hp w [] [.blk p3 (by8 X) 24, .blk p7 (by8 Y) 24, .blk p11 (by8 (sha (sha (X ++ List.take k Y)))) 24, .row A_ (32 + k) c_ 5 1 (by8 (X ++ List.take k Y))] w52 := H54
      refine GL.semU (j := 3) r53 [4] [(4, pt p11 0)] (by kernel_rfl) rfl rfl rfl ?_
      refine GL.k rfl hK48 (fun _ _ h => h) ?_
      refine G.ret ?_
      intro F_ hF_ hM_
      refine hRet _ _ (bodyPost_1 rfl (RV.cell rfl (H54.ldA (o := 0) (ty := 24) (m := 32) (sub := by8 (sha (sha (X ++ List.take k Y)))) 2 rfl (by kernel_rfl) (sub_whole (by rw [by8_length, sha_length])) (by rw [by8_length, sha_length]))) ?_ F_ hF_ hM_)
      have eY : List.take k Y = Y := List.take_of_length_le (by omega)
      rw [show bothH X Y = sha (sha (X ++ List.take k Y)) by rw [eY]; rfl]
      exact ⟨rfl, H54.sub (List.nil_sublist _)⟩
    · skip
      have hb46f := of_decide_eq_true hb46
      refine G.yes rfl ?_
      refine G.skipK hK45 (fun _ _ h => h) ?_
      refine G.seqK fun K55 hK56 => ?_
      refine G.block ?_
      refine G.seqK fun K57 hK58 => ?_
      refine G.region ?_
      refine GL.run (j := 2) 2 [3, 4, 5, 7, 19] [(3, pt p7 0), (4, pt p11 0), (5, .slice A_ (32 + k) c_), (7, .int .i64 (k : Int)), (19, .int .i64 (k : Int))] (by kernel_rfl) rfl ?_
      refine GL.k rfl hK58 (fun _ _ h => h) ?_
      refine G.region ?_
      refine GL.run (j := 2) 2 [3, 4, 19, 22, 23] [(3, pt p7 0), (4, pt p11 0), (19, .int .i64 (k : Int)), (22, .slice A_ (32 + k) c_), (23, .int .i64 (k : Int))] (by kernel_rfl) rfl ?_
      refine GL.sem (j := 3) (run_idxArr (P := Try.prog) (k := .i64) (t := 24) (len := 32) (sz := 1) (b := p7) (o := 0) (j := k) (by kernel_rfl) rfl (by omega)) [3, 4, 19, 22, 24] [(3, pt p7 0), (4, pt p11 0), (19, .int .i64 (k : Int)), (22, .slice A_ (32 + k) c_), (24, pt p7 (0 + k * 1))] (by kernel_rfl) (by kernel_rfl) rfl ?_
      refine GL.sem (j := 4) (H41.ld (o := (0 + k * 1)) (ty := 5) (v := .int .u8 (((Y.getD k 0)).toNat : Int)) 1 rfl (by kernel_rfl) (by rw [show (0 + k * 1) = k by omega]; exact by8_at (getD8 (by rw [hY]; omega)))) [3, 4, 19, 22, 25] [(3, pt p7 0), (4, pt p11 0), (19, .int .i64 (k : Int)), (22, .slice A_ (32 + k) c_), (25, .int .u8 (((Y.getD k 0)).toNat : Int))] (by kernel_rfl) (by kernel_rfl) rfl ?_
      obtain ⟨p59, w60, r61, H62⟩ := H41.madeRow (P := Try.prog) (Instr.buildSlice 49 1 #[(0, .int .u8 (((Y.getD k 0)).toNat : Int))]) (fun b_ => .slice (some ⟨b_, 0, none⟩) 1 1) [.int .u8 (((Y.getD k 0)).toNat : Int)] 5 1 1 1 (by kernel_rfl) (by decide) (by decide) rfl
      have H62 : Hp w [] [.blk p3 (by8 X) 24, .blk p7 (by8 Y) 24, .blk p11 (by8 (List.replicate 32 0)) 24, .row A_ (32 + k) c_ 5 1 (by8 (X ++ List.take k Y)), .row (some ⟨p59, 0, none⟩) 1 1 5 1 (by8 ([((Y.getD k 0))] : List UInt8))] w60 := H62
      refine GL.sem (j := 5) (r61) [3, 4, 19, 22, 26] [(3, pt p7 0), (4, pt p11 0), (19, .int .i64 (k : Int)), (22, .slice A_ (32 + k) c_), (26, .slice (some ⟨p59, 0, none⟩) 1 1)] (by kernel_rfl) (by kernel_rfl) rfl ?_
      obtain ⟨A63, c64, w65, r66, H67⟩ := H62.append (P := Try.prog) (e := 5) (sz := 1) (by_ := 1) (n := (32 + k)) (c := c_) (m := 1) (d := 1) (t := 49) (ty := 49) (xs := by8 (X ++ List.take k Y)) (news := by8 ([((Y.getD k 0))] : List UInt8)) 3 rfl (by kernel_rfl) (H62.rdRow 4 rfl) (by first | (simp [by8_length]; done) | (rw [by8_length]; omega) | (rw [by8_length, putB_length])) (by8_one _) (by omega) (by simp only [maxLen]; omega)
      rw [← by8_append] at H67
      have H67 : Hp w [] [.blk p3 (by8 X) 24, .blk p7 (by8 Y) 24, .blk p11 (by8 (List.replicate 32 0)) 24, .row A63 ((32 + k) + 1) c64 5 1 (by8 ((X ++ List.take k Y) ++ ([((Y.getD k 0))] : List UInt8))), .row (some ⟨p59, 0, none⟩) 1 1 5 1 (by8 ([((Y.getD k 0))] : List UInt8))] w65 := H67
      refine GL.sem (j := 6) (r66) [3, 4, 19, 27] [(3, pt p7 0), (4, pt p11 0), (19, .int .i64 (k : Int)), (27, .slice A63 ((32 + k) + 1) c64)] (by kernel_rfl) (by kernel_rfl) rfl ?_
      refine GL.run (j := 7) 1 [3, 4, 5, 19] [(3, pt p7 0), (4, pt p11 0), (5, .slice A63 ((32 + k) + 1) c64), (19, .int .i64 (k : Int))] (by kernel_rfl) rfl ?_
      refine GL.k rfl hK56 (fun _ _ h => h) ?_
      refine G.region ?_
      refine GL.run (j := 2) 2 [3, 4, 5, 19] [(3, pt p7 0), (4, pt p11 0), (5, .slice A63 ((32 + k) + 1) c64), (19, .int .i64 (IntKind.i64.wrap ((k : Int) + 1)))] (by kernel_rfl) rfl ?_
      have e68 : (IntKind.i64.wrap ((k : Int) + 1)) = ((k + 1 : Nat) : Int) := by rw [in_i64 (by omega)]; omega
      refine GL.eq (M' := [(3, pt p7 0), (4, pt p11 0), (5, .slice A63 ((32 + k) + 1) c64), (19, .int .i64 ((k + 1 : Nat) : Int))]) (by rw [e68]) ?_
      clear e68
      have H69 : Hp w [] [.blk p3 (by8 X) 24, .blk p7 (by8 Y) 24, .blk p11 (by8 (List.replicate 32 0)) 24, .row A63 ((32 + k) + 1) c64 5 1 (by8 ((X ++ List.take k Y) ++ ([((Y.getD k 0))] : List UInt8)))] w65 := H67.sub (List.Sublist.cons_cons _ (List.Sublist.cons_cons _ (List.Sublist.cons_cons _ (List.Sublist.cons_cons _ (List.Sublist.cons _ (List.Sublist.slnil))))))
      have H70 : Hp w [] [.blk p3 (by8 X) 24, .blk p7 (by8 Y) 24, .blk p11 (by8 (List.replicate 32 0)) 24, .row A63 (32 + (k + 1)) c64 5 1 (by8 (X ++ List.take (k + 1) Y))] w65 := by rw [take_snoc8 (by omega), ← List.append_assoc]; exact H69
      refine GL.fit (ts := [3, 4, 5, 19]) (M' := [(3, pt p7 0), (4, pt p11 0), (5, .slice A63 ((32 + k) + 1) c64), (19, .int .i64 ((k + 1 : Nat) : Int))]) (by kernel_rfl) ?_
      refine GL.eq (M' := [(3, pt p7 0), (4, pt p11 0), (5, .slice A63 (32 + (k + 1)) c64), (19, .int .i64 (((k + 1) : Nat) : Int))]) (by rfl) ?_
      exact GL.again ⟨(k + 1), A63, c64⟩ [3, 4, 5, 19] rfl (by kernel_rfl) (by show 32 - (k + 1) < 32 - k; omega) ⟨by omega, H70⟩
  · skip
    have hb33f := of_decide_eq_true hb33
    refine G.yes rfl ?_
    refine G.skipK hK32 (fun _ _ h => h) ?_
    refine G.seqK fun K71 hK72 => ?_
    refine G.block ?_
    refine G.seqK fun K73 hK74 => ?_
    refine G.region ?_
    refine GL.run (j := 2) 2 [2, 3, 4, 5, 6, 9] [(2, pt p3 0), (3, pt p7 0), (4, pt p11 0), (5, .slice A_ k c_), (6, .int .i64 (k : Int)), (9, .int .i64 (k : Int))] (by kernel_rfl) rfl ?_
    refine GL.k rfl hK74 (fun _ _ h => h) ?_
    refine G.region ?_
    refine GL.run (j := 2) 2 [2, 3, 4, 9, 12, 13] [(2, pt p3 0), (3, pt p7 0), (4, pt p11 0), (9, .int .i64 (k : Int)), (12, .slice A_ k c_), (13, .int .i64 (k : Int))] (by kernel_rfl) rfl ?_
    refine GL.sem (j := 3) (run_idxArr (P := Try.prog) (k := .i64) (t := 24) (len := 32) (sz := 1) (b := p3) (o := 0) (j := k) (by kernel_rfl) rfl (by omega)) [2, 3, 4, 9, 12, 14] [(2, pt p3 0), (3, pt p7 0), (4, pt p11 0), (9, .int .i64 (k : Int)), (12, .slice A_ k c_), (14, pt p3 (0 + k * 1))] (by kernel_rfl) (by kernel_rfl) rfl ?_
    refine GL.sem (j := 4) (H28.ld (o := (0 + k * 1)) (ty := 5) (v := .int .u8 (((X.getD k 0)).toNat : Int)) 0 rfl (by kernel_rfl) (by rw [show (0 + k * 1) = k by omega]; exact by8_at (getD8 (by rw [hX]; omega)))) [2, 3, 4, 9, 12, 15] [(2, pt p3 0), (3, pt p7 0), (4, pt p11 0), (9, .int .i64 (k : Int)), (12, .slice A_ k c_), (15, .int .u8 (((X.getD k 0)).toNat : Int))] (by kernel_rfl) (by kernel_rfl) rfl ?_
    obtain ⟨p75, w76, r77, H78⟩ := H28.madeRow (P := Try.prog) (Instr.buildSlice 49 1 #[(0, .int .u8 (((X.getD k 0)).toNat : Int))]) (fun b_ => .slice (some ⟨b_, 0, none⟩) 1 1) [.int .u8 (((X.getD k 0)).toNat : Int)] 5 1 1 1 (by kernel_rfl) (by decide) (by decide) rfl
    have H78 : Hp w [] [.blk p3 (by8 X) 24, .blk p7 (by8 Y) 24, .blk p11 (by8 (List.replicate 32 0)) 24, .row A_ k c_ 5 1 (by8 (List.take k X)), .row (some ⟨p75, 0, none⟩) 1 1 5 1 (by8 ([((X.getD k 0))] : List UInt8))] w76 := H78
    refine GL.sem (j := 5) (r77) [2, 3, 4, 9, 12, 16] [(2, pt p3 0), (3, pt p7 0), (4, pt p11 0), (9, .int .i64 (k : Int)), (12, .slice A_ k c_), (16, .slice (some ⟨p75, 0, none⟩) 1 1)] (by kernel_rfl) (by kernel_rfl) rfl ?_
    obtain ⟨A79, c80, w81, r82, H83⟩ := H78.append (P := Try.prog) (e := 5) (sz := 1) (by_ := 1) (n := k) (c := c_) (m := 1) (d := 1) (t := 49) (ty := 49) (xs := by8 (List.take k X)) (news := by8 ([((X.getD k 0))] : List UInt8)) 3 rfl (by kernel_rfl) (H78.rdRow 4 rfl) (by first | (simp [by8_length]; done) | (rw [by8_length]; omega) | (rw [by8_length, putB_length])) (by8_one _) (by omega) (by simp only [maxLen]; omega)
    rw [← by8_append] at H83
    have H83 : Hp w [] [.blk p3 (by8 X) 24, .blk p7 (by8 Y) 24, .blk p11 (by8 (List.replicate 32 0)) 24, .row A79 (k + 1) c80 5 1 (by8 ((List.take k X) ++ ([((X.getD k 0))] : List UInt8))), .row (some ⟨p75, 0, none⟩) 1 1 5 1 (by8 ([((X.getD k 0))] : List UInt8))] w81 := H83
    refine GL.sem (j := 6) (r82) [2, 3, 4, 9, 17] [(2, pt p3 0), (3, pt p7 0), (4, pt p11 0), (9, .int .i64 (k : Int)), (17, .slice A79 (k + 1) c80)] (by kernel_rfl) (by kernel_rfl) rfl ?_
    refine GL.run (j := 7) 1 [2, 3, 4, 5, 9] [(2, pt p3 0), (3, pt p7 0), (4, pt p11 0), (5, .slice A79 (k + 1) c80), (9, .int .i64 (k : Int))] (by kernel_rfl) rfl ?_
    refine GL.k rfl hK72 (fun _ _ h => h) ?_
    refine G.region ?_
    refine GL.run (j := 2) 2 [2, 3, 4, 5, 9] [(2, pt p3 0), (3, pt p7 0), (4, pt p11 0), (5, .slice A79 (k + 1) c80), (9, .int .i64 (IntKind.i64.wrap ((k : Int) + 1)))] (by kernel_rfl) rfl ?_
    have e84 : (IntKind.i64.wrap ((k : Int) + 1)) = ((k + 1 : Nat) : Int) := by rw [in_i64 (by omega)]; omega
    refine GL.eq (M' := [(2, pt p3 0), (3, pt p7 0), (4, pt p11 0), (5, .slice A79 (k + 1) c80), (9, .int .i64 ((k + 1 : Nat) : Int))]) (by rw [e84]) ?_
    clear e84
    have H85 : Hp w [] [.blk p3 (by8 X) 24, .blk p7 (by8 Y) 24, .blk p11 (by8 (List.replicate 32 0)) 24, .row A79 (k + 1) c80 5 1 (by8 ((List.take k X) ++ ([((X.getD k 0))] : List UInt8)))] w81 := H83.sub (List.Sublist.cons_cons _ (List.Sublist.cons_cons _ (List.Sublist.cons_cons _ (List.Sublist.cons_cons _ (List.Sublist.cons _ (List.Sublist.slnil))))))
    have H86 : Hp w [] [.blk p3 (by8 X) 24, .blk p7 (by8 Y) 24, .blk p11 (by8 (List.replicate 32 0)) 24, .row A79 (k + 1) c80 5 1 (by8 (List.take (k + 1) X))] w81 := by rw [take_snoc8 (by omega)]; exact H85
    refine GL.fit (ts := [2, 3, 4, 5, 9]) (M' := [(2, pt p3 0), (3, pt p7 0), (4, pt p11 0), (5, .slice A79 (k + 1) c80), (9, .int .i64 ((k + 1 : Nat) : Int))]) (by kernel_rfl) ?_
    refine GL.eq (M' := [(2, pt p3 0), (3, pt p7 0), (4, pt p11 0), (5, .slice A79 (k + 1) c80), (9, .int .i64 (((k + 1) : Nat) : Int))]) (by rfl) ?_
    exact GL.again ⟨(k + 1), A79, c80⟩ [2, 3, 4, 5, 9] rfl (by kernel_rfl) (by show 32 - (k + 1) < 32 - k; omega) ⟨by omega, H86⟩
theorem Plain_calls (A : Option Addr) (c : Nat) (l : List (List UInt8)) (w : World) (hx : RdS w A (by8 (flat8 l))) (hok : ok32 l) (hc : l.length ≤ c) (hl : l.length ≤ 65536) : Calls Try.prog 13 #[.slice A l.length c] w fun e w' => ∃ A' c', e = .returned (.slice A' l.length c') ∧ Hp w [] [.row A' l.length c' 24 32 (by8 (flat8 l))] w' := by
  refine calls_G (args := [.slice A l.length c]) Try.func13 rfl Try.ntmps13 rfl ?_
  intro Q0 hRet hNor hPan
  have H := Hp.start w
  have H : Hp w [] [] w := H
  refine G.seqK fun K1 hK2 => ?_
  refine G.region ?_
  refine GL.run (j := 1) 1 [0] [(0, .slice A l.length c)] (by kernel_rfl) rfl ?_
  refine GL.k rfl hK2 (fun _ _ h => h) ?_
  refine G.seqK fun K3 hK4 => ?_
  refine G.region ?_
  refine GL.run (j := 1) 1 [0, 3] [(0, .slice A l.length c), (3, .slice none 0 0)] (by kernel_rfl) rfl ?_
  refine GL.k rfl hK4 (fun _ _ h => h) ?_
  refine G.seqK fun K5 hK6 => ?_
  refine G.seqK fun K7 hK8 => ?_
  refine G.region ?_
  refine GL.run (j := 3) 3 [3, 6, 7, 8] [(3, .slice none 0 0), (6, .slice A l.length c), (7, .int .i64 (l.length : Int)), (8, .int .i64 0)] (by kernel_rfl) rfl ?_
  refine GL.k rfl hK8 (fun _ _ h => h) ?_
  refine G.block ?_
  have H9 := H.rowNil 24 32
  have H9 : Hp w [] [.row none 0 0 24 32 (by8 (flat8 (List.take 0 l)))] w := H9
  refine G.fit [3, 6, 7, 8] (M' := [(3, .slice none 0 0), (6, .slice A l.length c), (7, .int .i64 (l.length : Int)), (8, .int .i64 0)]) (by kernel_rfl) ?_
  refine G.loop (X := Nat × Option Addr × Nat) (fun ⟨k, A_, c_⟩ => [(3, .slice A_ k c_), (6, .slice A l.length c), (7, .int .i64 (l.length : Int)), (8, .int .i64 (k : Int))]) (fun ⟨k, A_, c_⟩ w_ => (k ≤ l.length) ∧ Hp w [] [.row A_ k c_ 24 32 (by8 (flat8 (List.take k l)))] w_) (fun ⟨k, A_, c_⟩ => l.length - k) ⟨0, none, 0⟩ [3, 6, 7, 8] (by kernel_rfl) ⟨by omega, H9⟩ ?_
  rintro ⟨k, A_, c_⟩ w10 ⟨hi11, H12⟩
  refine G.eq (M' := [(3, .slice A_ k c_), (6, .slice A l.length c), (7, .int .i64 (l.length : Int)), (8, .int .i64 (k : Int))]) rfl ?_
  have H12 : Hp w [] [.row A_ k c_ 24 32 (by8 (flat8 (List.take k l)))] w10 := H12
  have hkl := hi11
  refine G.seqK fun K13 hK14 => ?_
  refine G.region ?_
  refine GL.run (j := 1) 1 [3, 6, 7, 8, 9] [(3, .slice A_ k c_), (6, .slice A l.length c), (7, .int .i64 (l.length : Int)), (8, .int .i64 (k : Int)), (9, .bool (decide ((k : Int) < (l.length : Int))))] (by kernel_rfl) rfl ?_
  refine GL.k rfl hK14 (fun _ _ h => h) ?_
  refine G.seqK fun K15 hK16 => ?_
  cases hb17 : (decide ((k : Int) < (l.length : Int)))
  · skip
    have hb17f := of_decide_eq_false hb17
    refine G.no rfl ?_
    refine G.exitK hK6 (fun _ _ h => h) ?_
    refine G.seqK fun K18 hK19 => ?_
    refine G.region ?_
    refine GL.run (j := 2) 2 [2] [(2, .slice A_ k c_)] (by kernel_rfl) rfl ?_
    refine GL.k rfl hK19 (fun _ _ h => h) ?_
    refine G.ret ?_
    intro F_ hF_ hM_
    refine hRet _ _ (bodyPost_1 rfl (RV.tmp rfl) ?_ F_ hF_ hM_)
    have HF := H12
    rw [List.take_of_length_le (by omega), show k = l.length by omega] at HF
    rw [show k = l.length by omega]
    exact ⟨_, _, rfl, HF⟩
  · skip
    have hb17f := of_decide_eq_true hb17
    refine G.yes rfl ?_
    refine G.skipK hK16 (fun _ _ h => h) ?_
    refine G.seqK fun K20 hK21 => ?_
    refine G.block ?_
    refine G.seqK fun K22 hK23 => ?_
    refine G.region ?_
    refine GL.sem (j := 1) (run_idxRdN (P := Try.prog) (k := .i64) (t := 22) (sz := 32) (A := A) (len := l.length) (cap := c) (j := k) (by kernel_rfl) rfl (hx.hp H12) (by rw [by8_length]; exact flat8_length hok) (by decide) (by omega)) [3, 6, 7, 8, 10] [(3, .slice A_ k c_), (6, .slice A l.length c), (7, .int .i64 (l.length : Int)), (8, .int .i64 (k : Int)), (10, .pointer (Option.map (fun x => Addr.add x (k * 32)) A))] (by kernel_rfl) (by kernel_rfl) rfl ?_
    refine GL.sem (j := 2) (run_ldRdA (P := Try.prog) (ty := 25) (m := 32) (o := (k * 32)) (A := A) (sub := by8 (l.getD k [])) (by kernel_rfl) (hx.hp H12) (flat8_sub hok (by omega)) (by rw [by8_length, ok32_at hok (by omega)]) (by decide)) [3, 6, 7, 8, 11] [(3, .slice A_ k c_), (6, .slice A l.length c), (7, .int .i64 (l.length : Int)), (8, .int .i64 (k : Int)), (11, .agg (by8 (l.getD k [])).toArray)] (by kernel_rfl) (by kernel_rfl) rfl ?_
    obtain ⟨p24, w25, r26, H27⟩ := H12.alloc (P := Try.prog) 25 (by8 (List.replicate 32 0)) (by kernel_rfl)
    have H27 : Hp w [] [.row A_ k c_ 24 32 (by8 (flat8 (List.take k l))), .blk p24 (by8 (List.replicate 32 0)) 25] w25 := H27
    refine GL.sem (j := 3) (r26) [3, 5, 6, 7, 8, 11] [(3, .slice A_ k c_), (5, pt p24 0), (6, .slice A l.length c), (7, .int .i64 (l.length : Int)), (8, .int .i64 (k : Int)), (11, .agg (by8 (l.getD k [])).toArray)] (by kernel_rfl) (by kernel_rfl) rfl ?_
    obtain ⟨w28, r29, H30⟩ := H27.stA (P := Try.prog) (o := 0) (vs := by8 (l.getD k [])) (ty := 25) (m := 32) 1 rfl (by kernel_rfl) (by rw [by8_length, ok32_at hok (by omega)]) (Nat.le_of_eq (by rw [Nat.zero_add]; exact ((show (by8 (List.replicate 32 0)).length = 32 from by rw [by8_length]; rfl)).symm)) (by8_one _)
    rw [st_whole (by rw [by8_length]; rfl)] at H30
    have H30 : Hp w [] [.row A_ k c_ 24 32 (by8 (flat8 (List.take k l))), .blk p24 (by8 (l.getD k [])) 25] w28 := H30
    refine GL.semU (j := 4) r29 [3, 5, 6, 7, 8] [(3, .slice A_ k c_), (5, pt p24 0), (6, .slice A l.length c), (7, .int .i64 (l.length : Int)), (8, .int .i64 (k : Int))] (by kernel_rfl) rfl rfl rfl ?_
    refine GL.k rfl hK23 (fun _ _ h => h) ?_
    refine G.region ?_
    refine GL.run (j := 1) 1 [5, 6, 7, 8, 12] [(5, pt p24 0), (6, .slice A l.length c), (7, .int .i64 (l.length : Int)), (8, .int .i64 (k : Int)), (12, .slice A_ k c_)] (by kernel_rfl) rfl ?_
    refine GL.sem (j := 2) (H30.ldA (o := 0) (ty := 25) (m := 32) (sub := by8 (l.getD k [])) 1 rfl (by kernel_rfl) (sub_whole (by rw [by8_length, ok32_at hok (by omega)])) (by rw [by8_length, ok32_at hok (by omega)])) [6, 7, 8, 12, 13] [(6, .slice A l.length c), (7, .int .i64 (l.length : Int)), (8, .int .i64 (k : Int)), (12, .slice A_ k c_), (13, .agg (by8 (l.getD k [])).toArray)] (by kernel_rfl) (by kernel_rfl) rfl ?_
    obtain ⟨p31, w32, r33, H34⟩ := H30.madeRow (P := Try.prog) (Instr.buildSlice 33 1 #[(0, .agg (by8 (l.getD k [])).toArray)]) (fun b_ => .slice (some ⟨b_, 0, none⟩) 1 1) (by8 (l.getD k [])) 24 1 1 32 (built1_33 (l.getD k []) (by rw [ok32_at hok (by omega)])) (by decide) (by decide) (by rw [by8_length, ok32_at hok (by omega)])
    rw [List.take_of_length_le (show (by8 (l.getD k [])).length ≤ 1 * 32 from Nat.le_of_eq (by rw [by8_length, ok32_at hok (by omega)]))] at H34
    have H34 : Hp w [] [.row A_ k c_ 24 32 (by8 (flat8 (List.take k l))), .blk p24 (by8 (l.getD k [])) 25, .row (some ⟨p31, 0, none⟩) 1 1 24 32 (by8 (l.getD k []))] w32 := H34
    refine GL.sem (j := 3) (r33) [6, 7, 8, 12, 14] [(6, .slice A l.length c), (7, .int .i64 (l.length : Int)), (8, .int .i64 (k : Int)), (12, .slice A_ k c_), (14, .slice (some ⟨p31, 0, none⟩) 1 1)] (by kernel_rfl) (by kernel_rfl) rfl ?_
    obtain ⟨A35, c36, w37, r38, H39⟩ := H34.append (P := Try.prog) (e := 24) (sz := 32) (by_ := 32) (n := k) (c := c_) (m := 1) (d := 1) (t := 33) (ty := 33) (xs := by8 (flat8 (List.take k l))) (news := by8 (l.getD k [])) 0 rfl (by kernel_rfl) (H34.rdRowN 2 rfl) (by rw [by8_length, ok32_at hok (by omega)]) (by8_one _) (by omega) (by simp only [maxLen]; omega)
    rw [← by8_append] at H39
    have H39 : Hp w [] [.row A35 (k + 1) c36 24 32 (by8 ((flat8 (List.take k l)) ++ (l.getD k []))), .blk p24 (by8 (l.getD k [])) 25, .row (some ⟨p31, 0, none⟩) 1 1 24 32 (by8 (l.getD k []))] w37 := H39
    refine GL.sem (j := 4) (r38) [6, 7, 8, 15] [(6, .slice A l.length c), (7, .int .i64 (l.length : Int)), (8, .int .i64 (k : Int)), (15, .slice A35 (k + 1) c36)] (by kernel_rfl) (by kernel_rfl) rfl ?_
    refine GL.run (j := 5) 1 [3, 6, 7, 8] [(3, .slice A35 (k + 1) c36), (6, .slice A l.length c), (7, .int .i64 (l.length : Int)), (8, .int .i64 (k : Int))] (by kernel_rfl) rfl ?_
    refine GL.k rfl hK21 (fun _ _ h => h) ?_
    refine G.region ?_
    refine GL.run (j := 2) 2 [3, 6, 7, 8] [(3, .slice A35 (k + 1) c36), (6, .slice A l.length c), (7, .int .i64 (l.length : Int)), (8, .int .i64 (IntKind.i64.wrap ((k : Int) + 1)))] (by kernel_rfl) rfl ?_
    have e40 : (IntKind.i64.wrap ((k : Int) + 1)) = ((k + 1 : Nat) : Int) := by rw [in_i64 (by omega)]; omega
    refine GL.eq (M' := [(3, .slice A35 (k + 1) c36), (6, .slice A l.length c), (7, .int .i64 (l.length : Int)), (8, .int .i64 ((k + 1 : Nat) : Int))]) (by rw [e40]) ?_
    clear e40
    have H41 : Hp w [] [.row A35 (k + 1) c36 24 32 (by8 ((flat8 (List.take k l)) ++ (l.getD k [])))] w37 := H39.sub (List.Sublist.cons_cons _ (List.Sublist.cons _ (List.Sublist.cons _ (List.Sublist.slnil))))
    have H42 : Hp w [] [.row A35 (k + 1) c36 24 32 (by8 (flat8 (List.take (k + 1) l)))] w37 := by rw [List.take_add_one, getDH (l := l) (j := k) (by omega), Option.toList_some, flat8_snoc]; exact H41
    refine GL.fit (ts := [3, 6, 7, 8]) (M' := [(3, .slice A35 (k + 1) c36), (6, .slice A l.length c), (7, .int .i64 (l.length : Int)), (8, .int .i64 ((k + 1 : Nat) : Int))]) (by kernel_rfl) ?_
    refine GL.eq (M' := [(3, .slice A35 (k + 1) c36), (6, .slice A l.length c), (7, .int .i64 (l.length : Int)), (8, .int .i64 (((k + 1) : Nat) : Int))]) (by rfl) ?_
    exact GL.again ⟨(k + 1), A35, c36⟩ [3, 6, 7, 8] rfl (by kernel_rfl) (by show l.length - (k + 1) < l.length - k; omega) ⟨by omega, H42⟩
end Go.Proofs.Ytgmggjnoegelgaa
namespace Go.Proofs.Ytgmggjnoegelgaa
open Go.RowKit
theorem i_andO {j : Nat} (h : j < 65537) : Go.bits .and .i64 (j : Int) 1 = ((j % 2 : Nat) : Int) := by
  show IntKind.i64.wrap ((BitVec.ofInt 64 (j : Int) &&& BitVec.ofInt 64 1).toNat : Int) = _
  have e1 : (BitVec.ofInt 64 (j : Int)).toNat = j := by
    rw [BitVec.toNat_ofInt]
    omega
  have e2 : (BitVec.ofInt 64 1).toNat = 1 := by decide
  rw [BitVec.toNat_and, e1, e2, Nat.and_one_is_mod]
  rw [in_i64 (by omega)]
def aloneB (i n : Nat) : Bool := decide (i = n - 1 ∧ n % 2 = 1)
def turnH (X x : List UInt8) (i : Nat) : List UInt8 := if i % 2 = 1 then bothH x X else bothH X x
theorem turnH_length (X x : List UInt8) (i : Nat) : (turnH X x i).length = 32 := by unfold turnH; split <;> exact bothH_length _ _
def climbR : List (List UInt8) → List UInt8 → Nat → Nat → List UInt8 × Bool
  | [], X, _, n => if n = 1 then (X, true) else (List.replicate 32 0, false)
  | x :: r, X, i, n => if n = 1 then (X, false) else if aloneB i n = decide (x = X) then climbR r (turnH X x i) (i / 2) ((n + 1) / 2) else (List.replicate 32 0, false)
theorem climbR_one (l : List (List UInt8)) (X : List UInt8) (i : Nat) : climbR l X i 1 = (X, decide (l.length = 0)) := by
  cases l <;> rfl
theorem climbR_nil {l : List (List UInt8)} {X : List UInt8} {i n : Nat} (h : l.length = 0) (hn : n ≠ 1) : climbR l X i n = (List.replicate 32 0, false) := by
  cases l with
  | nil => rw [climbR, if_neg hn]
  | cons a t => simp at h
theorem climbR_stop {l : List (List UInt8)} {X : List UInt8} {i n k : Nat} (hk : k < l.length) (hn : n ≠ 1) (h : aloneB i n ≠ decide (l.getD k [] = X)) : climbR (l.drop k) X i n = (List.replicate 32 0, false) := by
  rw [List.drop_eq_getElem_cons hk, climbR, if_neg hn, if_neg (by rw [List.getD_eq_getElem?_getD, List.getElem?_eq_getElem hk] at h; exact h)]
theorem climbR_on {l : List (List UInt8)} {X : List UInt8} {i n k : Nat} (hk : k < l.length) (hn : n ≠ 1) (h : aloneB i n = decide (l.getD k [] = X)) : climbR (l.drop k) X i n = climbR (l.drop (k + 1)) (turnH X (l.getD k []) i) (i / 2) ((n + 1) / 2) := by
  have e : l.getD k [] = l[k] := by rw [List.getD_eq_getElem?_getD, List.getElem?_eq_getElem hk]; rfl
  rw [e] at h ⊢
  rw [List.drop_eq_getElem_cons hk, climbR, if_neg hn, if_pos h]
theorem climbR_len : ∀ (l : List (List UInt8)) (X : List UInt8) (i n : Nat), 0 < n → (climbR l X i n).2 = true → l.length = cntH n
  | [], X, i, n, h0, h => by
    unfold climbR at h
    split at h
    · rw [cntH_one (by omega)]; rfl
    · cases h
  | x :: r, X, i, n, h0, h => by
    unfold climbR at h
    split at h
    · cases h
    · split at h
      · have := climbR_len r _ _ _ (by omega) h
        rw [List.length_cons, this, ← cntH_step (by omega)]
      · cases h
theorem climbR_32 : ∀ (l : List (List UInt8)) (X : List UInt8) (i n : Nat), X.length = 32 → (climbR l X i n).1.length = 32
  | [], X, i, n, h => by unfold climbR; split <;> simp [h]
  | x :: r, X, i, n, h => by
    unfold climbR
    split
    · exact h
    · split
      · exact climbR_32 r _ _ _ (turnH_length _ _ _)
      · rfl
def climbE (l : List (List UInt8)) (g : List UInt8) (i n : Int) : Nat := if leafB n = true ∧ 0 ≤ i ∧ i < n then (if (climbR l g i.toNat n.toNat).2 = true then 0 else 14) else 1
def climbV (l : List (List UInt8)) (g : List UInt8) (i n : Int) : List UInt8 := if climbE l g i n = 0 then (climbR l g i.toNat n.toNat).1 else List.replicate 32 0
theorem climbV_length {l : List (List UInt8)} {g : List UInt8} {i n : Int} (h : g.length = 32) : (climbV l g i n).length = 32 := by unfold climbV; split <;> simp [climbR_32 l g _ _ h]
theorem Climb_calls (g : List UInt8) (hg : g.length = 32) (z m : Int) (A : Option Addr) (c : Nat) (l : List (List UInt8)) (w : World) (hx : RdS w A (by8 (flat8 l))) (hok : ok32 l) (hc : l.length ≤ c) : Calls Try.prog 18 #[.agg (by8 g).toArray, .int .i64 z, .int .i64 m, .slice A l.length c] w fun e w' => e = .returned (.tuple #[.agg (by8 (climbV l g z m)).toArray, .int .i64 ((climbE l g z m : Nat) : Int)]) ∧ Hp w [] [] w' := by
  refine calls_G (args := [.agg (by8 g).toArray, .int .i64 z, .int .i64 m, .slice A l.length c]) Try.func18 rfl Try.ntmps18 rfl ?_
  intro Q0 hRet hNor hPan
  have H := Hp.start w
  have H : Hp w [] [] w := H
  refine G.seqK fun K1 hK2 => ?_
  refine G.region ?_
  obtain ⟨p3, w4, r5, H6⟩ := H.box (P := Try.prog) 25 (by8 g) (.agg (by8 g).toArray) rfl
  have H6 : Hp w [] [.blk p3 (by8 g) 25] w4 := H6
  refine GL.sem (j := 1) (r5) [1, 2, 3, 4] [(1, .int .i64 z), (2, .int .i64 m), (3, .slice A l.length c), (4, pt p3 0)] (by kernel_rfl) (by kernel_rfl) rfl ?_
  obtain ⟨p7, w8, r9, H10⟩ := H6.alloc (P := Try.prog) 25 (by8 (List.replicate 32 0)) (by kernel_rfl)
  have H10 : Hp w [] [.blk p3 (by8 g) 25, .blk p7 (by8 (List.replicate 32 0)) 25] w8 := H10
  refine GL.sem (j := 2) (r9) [1, 2, 3, 4, 8] [(1, .int .i64 z), (2, .int .i64 m), (3, .slice A l.length c), (4, pt p3 0), (8, pt p7 0)] (by kernel_rfl) (by kernel_rfl) rfl ?_
  refine GL.run (j := 3) 1 [1, 2, 3, 4, 8] [(1, .int .i64 z), (2, .int .i64 m), (3, .slice A l.length c), (4, pt p3 0), (8, pt p7 0)] (by kernel_rfl) rfl ?_
  refine GL.k rfl hK2 (fun _ _ h => h) ?_
  refine G.scope ?_
  refine G.seqK fun K11 hK12 => ?_
  refine G.seqK fun K13 hK14 => ?_
  refine G.region ?_
  refine GL.run (j := 1) 1 [1, 2, 3, 4, 8, 13] [(1, .int .i64 z), (2, .int .i64 m), (3, .slice A l.length c), (4, pt p3 0), (8, pt p7 0), (13, .int .i64 m)] (by kernel_rfl) rfl ?_
  refine GL.call (j := 2) (Leaves_calls m w8) (by kernel_rfl) rfl (fun e_ w15 hR => ?_)
  obtain ⟨rfl, H17⟩ := hR
  have H16 : Hp w [] [.blk p3 (by8 g) 25, .blk p7 (by8 (List.replicate 32 0)) 25] w15 := H10.callNil H17
  refine ⟨_, rfl, [1, 2, 3, 4, 8, 14], [(1, .int .i64 z), (2, .int .i64 m), (3, .slice A l.length c), (4, pt p3 0), (8, pt p7 0), (14, .bool (leafB m))], by kernel_rfl, ?_⟩
  refine GL.run (j := 4) 2 [1, 2, 3, 4, 8, 16] [(1, .int .i64 z), (2, .int .i64 m), (3, .slice A l.length c), (4, pt p3 0), (8, pt p7 0), (16, .bool (!(leafB m)))] (by kernel_rfl) rfl ?_
  cases hb18 : (leafB m)
  · skip
    have hbad : ¬ (leafB m = true ∧ 0 ≤ z ∧ z < m) := fun h => by rw [hb18] at h; cases h.1
    refine GL.run (j := 12) 8 [1, 2, 3, 4, 8, 24] [(1, .int .i64 z), (2, .int .i64 m), (3, .slice A l.length c), (4, pt p3 0), (8, pt p7 0), (24, .bool true)] (by kernel_rfl) rfl ?_
    refine GL.k rfl hK14 (fun _ _ h => h) ?_
    refine G.yes rfl ?_
    refine G.seqK fun K19 hK20 => ?_
    refine G.region ?_
    refine GL.run (j := 1) 1 [8, 25] [(8, pt p7 0), (25, .agg (by8 (List.replicate 32 0)).toArray)] (by kernel_rfl) rfl ?_
    obtain ⟨w21, r22, H23⟩ := H16.stA (P := Try.prog) (o := 0) (vs := by8 (List.replicate 32 0)) (ty := 25) (m := 32) 1 rfl (by kernel_rfl) (by rw [by8_length, List.length_replicate]) (Nat.le_of_eq (by rw [Nat.zero_add]; exact ((show (by8 (List.replicate 32 0)).length = 32 from by rw [by8_length]; rfl)).symm)) (by8_one _)
    rw [st_whole (by rw [by8_length]; rfl)] at H23
    have H23 : Hp w [] [.blk p3 (by8 g) 25, .blk p7 (by8 (List.replicate 32 0)) 25] w21 := H23
    refine GL.semU (j := 2) r22 [8] [(8, pt p7 0)] (by kernel_rfl) rfl rfl rfl ?_
    refine GL.run (j := 3) 1 [8, 9] [(8, pt p7 0), (9, .int .i64 1)] (by kernel_rfl) rfl ?_
    refine GL.k rfl hK20 (fun _ _ h => h) ?_
    refine G.ret ?_
    intro F_ hF_ hM_
    refine hRet _ _ (bodyPost_2 rfl (RV.cell rfl (H23.ldA (o := 0) (ty := 25) (m := 32) (sub := by8 (List.replicate 32 0)) 1 rfl (by kernel_rfl) (sub_whole (by rw [by8_length, List.length_replicate])) (by rw [by8_length, List.length_replicate]))) (RV.tmp rfl) ?_ F_ hF_ hM_)
    have e1 : climbE l g z m = 1 := by unfold climbE; rw [if_neg hbad]
    have e2 : climbV l g z m = (List.replicate 32 0) := by unfold climbV; rw [e1, if_neg (by decide)]
    rw [e1, e2]
    exact ⟨rfl, H23.sub (List.nil_sublist _)⟩
  · skip
    refine GL.run (j := 8) 4 [1, 2, 3, 4, 8, 20] [(1, .int .i64 z), (2, .int .i64 m), (3, .slice A l.length c), (4, pt p3 0), (8, pt p7 0), (20, .bool (decide (z < 0)))] (by kernel_rfl) rfl ?_
    cases hb24 : (decide (z < 0))
    · skip
      have hb24f := of_decide_eq_false hb24
      refine GL.run (j := 12) 4 [1, 2, 3, 4, 8, 24] [(1, .int .i64 z), (2, .int .i64 m), (3, .slice A l.length c), (4, pt p3 0), (8, pt p7 0), (24, .bool (decide (m ≤ z)))] (by kernel_rfl) rfl ?_
      refine GL.k rfl hK14 (fun _ _ h => h) ?_
      cases hb25 : (decide (m ≤ z))
      · skip
        have hb25f := of_decide_eq_false hb25
        obtain ⟨n, rfl⟩ : ∃ n : Nat, m = (n : Int) := ⟨m.toNat, by omega⟩
        obtain ⟨i, rfl⟩ : ∃ i : Nat, z = (i : Int) := ⟨z.toNat, by omega⟩
        have hin : i < n := by omega
        have hlf : 1 ≤ n ∧ n ≤ 65536 := by have h_ := of_decide_eq_true (show leafB (n : Int) = true from by assumption); omega
        have hgd : leafB (n : Int) = true ∧ 0 ≤ (i : Int) ∧ (i : Int) < n := ⟨by assumption, by omega, by omega⟩
        have hrw : rowsN n = cntH n := by unfold rowsN; rw [if_pos (by assumption)]
        refine G.no rfl ?_
        refine G.skipK hK12 (fun _ _ h => h) ?_
        refine G.seqK fun K26 hK27 => ?_
        refine G.seqK fun K28 hK29 => ?_
        refine G.region ?_
        refine GL.run (j := 3) 3 [1, 2, 3, 4, 8, 27, 28] [(1, .int .i64 (i : Int)), (2, .int .i64 (n : Int)), (3, .slice A l.length c), (4, pt p3 0), (8, pt p7 0), (27, .int .i64 (l.length : Int)), (28, .int .i64 (n : Int))] (by kernel_rfl) rfl ?_
        refine GL.call (j := 4) (Rows_calls n w15) (by kernel_rfl) rfl (fun e_ w30 hR => ?_)
        obtain ⟨rfl, H32⟩ := hR
        have H31 : Hp w [] [.blk p3 (by8 g) 25, .blk p7 (by8 (List.replicate 32 0)) 25] w30 := H16.callNil H32
        refine ⟨_, rfl, [1, 2, 3, 4, 8, 27, 29], [(1, .int .i64 (i : Int)), (2, .int .i64 (n : Int)), (3, .slice A l.length c), (4, pt p3 0), (8, pt p7 0), (27, .int .i64 (l.length : Int)), (29, .int .i64 (((rowsN n) : Nat) : Int))], by kernel_rfl, ?_⟩
        refine GL.run (j := 5) 1 [1, 2, 3, 4, 8, 30] [(1, .int .i64 (i : Int)), (2, .int .i64 (n : Int)), (3, .slice A l.length c), (4, pt p3 0), (8, pt p7 0), (30, .bool ((l.length : Int) != (((rowsN n) : Nat) : Int)))] (by kernel_rfl) rfl ?_
        refine GL.k rfl hK29 (fun _ _ h => h) ?_
        cases hb33 : ((l.length : Int) != (((rowsN n) : Nat) : Int))
        · skip
          have hb33f : (l.length : Int) = (((rowsN n) : Nat) : Int) := bne_eq_false_iff_eq.1 hb33
          have hl16 : l.length ≤ 65536 := by have := cntH_le n; omega
          refine G.no rfl ?_
          refine G.skipK hK27 (fun _ _ h => h) ?_
          refine G.seqK fun K34 hK35 => ?_
          refine G.labelK hK35 (fun _ _ h => h) ?_
          refine G.seqK fun K36 hK37 => ?_
          refine G.seqK fun K38 hK39 => ?_
          refine G.region ?_
          refine GL.run (j := 3) 3 [1, 2, 4, 8, 32, 33, 34] [(1, .int .i64 (i : Int)), (2, .int .i64 (n : Int)), (4, pt p3 0), (8, pt p7 0), (32, .slice A l.length c), (33, .int .i64 (l.length : Int)), (34, .int .i64 0)] (by kernel_rfl) rfl ?_
          refine GL.k rfl hK39 (fun _ _ h => h) ?_
          refine G.block ?_
          refine G.fit [1, 2, 4, 8, 32, 33, 34] (M' := [(1, .int .i64 (i : Int)), (2, .int .i64 (n : Int)), (4, pt p3 0), (8, pt p7 0), (32, .slice A l.length c), (33, .int .i64 (l.length : Int)), (34, .int .i64 0)]) (by kernel_rfl) ?_
          refine G.loop (X := Nat × List UInt8 × Nat × Nat) (fun ⟨k, X, j, p⟩ => [(1, .int .i64 (j : Int)), (2, .int .i64 (p : Int)), (4, pt p3 0), (8, pt p7 0), (32, .slice A l.length c), (33, .int .i64 (l.length : Int)), (34, .int .i64 (k : Int))]) (fun ⟨k, X, j, p⟩ w_ => (climbR (l.drop k) X j p = climbR l g i n ∧ X.length = 32 ∧ k ≤ l.length ∧ l.length = k + cntH p ∧ j < p ∧ p ≤ 65536) ∧ Hp w [] [.blk p3 (by8 X) 25, .blk p7 (by8 (List.replicate 32 0)) 25] w_) (fun ⟨k, X, j, p⟩ => l.length - k) ⟨0, g, i, n⟩ [1, 2, 4, 8, 32, 33, 34] (by kernel_rfl) ⟨⟨rfl, hg, Nat.zero_le _, by omega, by omega, by omega⟩, H31⟩ ?_
          rintro ⟨k, X, j, p⟩ w40 ⟨hi41, H42⟩
          refine G.eq (M' := [(1, .int .i64 (j : Int)), (2, .int .i64 (p : Int)), (4, pt p3 0), (8, pt p7 0), (32, .slice A l.length c), (33, .int .i64 (l.length : Int)), (34, .int .i64 (k : Int))]) rfl ?_
          have H42 : Hp w [] [.blk p3 (by8 X) 25, .blk p7 (by8 (List.replicate 32 0)) 25] w40 := H42
          obtain ⟨hcl, hX, hk, hcn, hjp, hp16⟩ := hi41
          refine G.seqK fun K43 hK44 => ?_
          refine G.region ?_
          refine GL.run (j := 1) 1 [1, 2, 4, 8, 32, 33, 34, 35] [(1, .int .i64 (j : Int)), (2, .int .i64 (p : Int)), (4, pt p3 0), (8, pt p7 0), (32, .slice A l.length c), (33, .int .i64 (l.length : Int)), (34, .int .i64 (k : Int)), (35, .bool (decide ((k : Int) < (l.length : Int))))] (by kernel_rfl) rfl ?_
          refine GL.k rfl hK44 (fun _ _ h => h) ?_
          refine G.seqK fun K45 hK46 => ?_
          cases hb47 : (decide ((k : Int) < (l.length : Int)))
          · skip
            have hb47f := of_decide_eq_false hb47
            obtain rfl : k = l.length := by omega
            have hp1 : p = 1 := by by_cases h_ : p ≤ 1; (· omega); (· rw [cntH_step (by omega)] at hcn; omega)
            have hcv : climbR l g i n = (X, true) := by rw [← hcl, hp1, climbR_one, List.drop_length]; rfl
            refine G.no rfl ?_
            refine G.exitK hK37 (fun _ _ h => h) ?_
            refine G.seqK fun K48 hK49 => ?_
            refine G.region ?_
            refine GL.sem (j := 1) (H42.ldA (o := 0) (ty := 25) (m := 32) (sub := by8 X) 0 rfl (by kernel_rfl) (sub_whole (by rw [by8_length, hX])) (by rw [by8_length, hX])) [8, 72] [(8, pt p7 0), (72, .agg (by8 X).toArray)] (by kernel_rfl) (by kernel_rfl) rfl ?_
            obtain ⟨w50, r51, H52⟩ := H42.stA (P := Try.prog) (o := 0) (vs := by8 X) (ty := 25) (m := 32) 1 rfl (by kernel_rfl) (by rw [by8_length, hX]) (Nat.le_of_eq (by rw [Nat.zero_add]; exact ((show (by8 (List.replicate 32 0)).length = 32 from by rw [by8_length]; rfl)).symm)) (by8_one _)
            rw [st_whole (by rw [by8_length]; rfl)] at H52
            have H52 : Hp w [] [.blk p3 (by8 X) 25, .blk p7 (by8 X) 25] w50 := H52
            refine GL.semU (j := 2) r51 [8] [(8, pt p7 0)] (by kernel_rfl) rfl rfl rfl ?_
            refine GL.run (j := 3) 1 [8, 9] [(8, pt p7 0), (9, .int .i64 0)] (by kernel_rfl) rfl ?_
            refine GL.k rfl hK49 (fun _ _ h => h) ?_
            refine G.ret ?_
            intro F_ hF_ hM_
            refine hRet _ _ (bodyPost_2 rfl (RV.cell rfl (H52.ldA (o := 0) (ty := 25) (m := 32) (sub := by8 X) 1 rfl (by kernel_rfl) (sub_whole (by rw [by8_length, hX])) (by rw [by8_length, hX]))) (RV.tmp rfl) ?_ F_ hF_ hM_)
            have e1 : climbE l g (i : Int) (n : Int) = 0 := by unfold climbE; rw [if_pos hgd, if_pos (by rw [Int.toNat_natCast, Int.toNat_natCast, hcv])]
            have e2 : climbV l g (i : Int) (n : Int) = X := by unfold climbV; rw [e1, if_pos rfl, Int.toNat_natCast, Int.toNat_natCast, hcv]
            rw [e1, e2]
            exact ⟨rfl, H52.sub (List.nil_sublist _)⟩
          · skip
            have hb47f := of_decide_eq_true hb47
            have hp2 : 1 < p := by by_cases h_ : p ≤ 1; (· rw [cntH_one h_] at hcn; omega); omega
            have hcs := cntH_step hp2
            refine G.yes rfl ?_
            refine G.skipK hK46 (fun _ _ h => h) ?_
            refine G.seqK fun K53 hK54 => ?_
            refine G.block ?_
            refine G.seqK fun K55 hK56 => ?_
            refine G.region ?_
            refine GL.sem (j := 1) (run_idxRdN (P := Try.prog) (k := .i64) (t := 22) (sz := 32) (A := A) (len := l.length) (cap := c) (j := k) (by kernel_rfl) rfl (hx.hp H42) (by rw [by8_length]; exact flat8_length hok) (by decide) (by omega)) [1, 2, 4, 8, 32, 33, 34, 36] [(1, .int .i64 (j : Int)), (2, .int .i64 (p : Int)), (4, pt p3 0), (8, pt p7 0), (32, .slice A l.length c), (33, .int .i64 (l.length : Int)), (34, .int .i64 (k : Int)), (36, .pointer (Option.map (fun x => Addr.add x (k * 32)) A))] (by kernel_rfl) (by kernel_rfl) rfl ?_
            refine GL.sem (j := 2) (run_ldRdA (P := Try.prog) (ty := 25) (m := 32) (o := (k * 32)) (A := A) (sub := by8 (l.getD k [])) (by kernel_rfl) (hx.hp H42) (flat8_sub hok (by omega)) (by rw [by8_length, ok32_at hok (by omega)]) (by decide)) [1, 2, 4, 8, 32, 33, 34, 37] [(1, .int .i64 (j : Int)), (2, .int .i64 (p : Int)), (4, pt p3 0), (8, pt p7 0), (32, .slice A l.length c), (33, .int .i64 (l.length : Int)), (34, .int .i64 (k : Int)), (37, .agg (by8 (l.getD k [])).toArray)] (by kernel_rfl) (by kernel_rfl) rfl ?_
            obtain ⟨p57, w58, r59, H60⟩ := H42.alloc (P := Try.prog) 25 (by8 (List.replicate 32 0)) (by kernel_rfl)
            have H60 : Hp w [] [.blk p3 (by8 X) 25, .blk p7 (by8 (List.replicate 32 0)) 25, .blk p57 (by8 (List.replicate 32 0)) 25] w58 := H60
            refine GL.sem (j := 3) (r59) [1, 2, 4, 8, 11, 32, 33, 34, 37] [(1, .int .i64 (j : Int)), (2, .int .i64 (p : Int)), (4, pt p3 0), (8, pt p7 0), (11, pt p57 0), (32, .slice A l.length c), (33, .int .i64 (l.length : Int)), (34, .int .i64 (k : Int)), (37, .agg (by8 (l.getD k [])).toArray)] (by kernel_rfl) (by kernel_rfl) rfl ?_
            obtain ⟨w61, r62, H63⟩ := H60.stA (P := Try.prog) (o := 0) (vs := by8 (l.getD k [])) (ty := 25) (m := 32) 2 rfl (by kernel_rfl) (by rw [by8_length, ok32_at hok (by omega)]) (Nat.le_of_eq (by rw [Nat.zero_add]; exact ((show (by8 (List.replicate 32 0)).length = 32 from by rw [by8_length]; rfl)).symm)) (by8_one _)
            rw [st_whole (by rw [by8_length]; rfl)] at H63
            have H63 : Hp w [] [.blk p3 (by8 X) 25, .blk p7 (by8 (List.replicate 32 0)) 25, .blk p57 (by8 (l.getD k [])) 25] w61 := H63
            refine GL.semU (j := 4) r62 [1, 2, 4, 8, 11, 32, 33, 34] [(1, .int .i64 (j : Int)), (2, .int .i64 (p : Int)), (4, pt p3 0), (8, pt p7 0), (11, pt p57 0), (32, .slice A l.length c), (33, .int .i64 (l.length : Int)), (34, .int .i64 (k : Int))] (by kernel_rfl) rfl rfl rfl ?_
            refine GL.k rfl hK56 (fun _ _ h => h) ?_
            refine G.seqJ (X := Unit) (fun _u => [(1, .int .i64 (j : Int)), (2, .int .i64 (p : Int)), (4, pt p3 0), (8, pt p7 0), (11, pt p57 0), (12, .bool (aloneB j p)), (32, .slice A l.length c), (33, .int .i64 (l.length : Int)), (34, .int .i64 (k : Int))]) (fun _u w_ => (True) ∧ Hp w [] [.blk p3 (by8 X) 25, .blk p7 (by8 (List.replicate 32 0)) 25, .blk p57 (by8 (l.getD k [])) 25] w_) (fun J64 K65 hK66 => ?_) ?_
            · skip
              refine G.region ?_
              refine GL.run (j := 5) 5 [1, 2, 4, 8, 11, 32, 33, 34, 42] [(1, .int .i64 (j : Int)), (2, .int .i64 (p : Int)), (4, pt p3 0), (8, pt p7 0), (11, pt p57 0), (32, .slice A l.length c), (33, .int .i64 (l.length : Int)), (34, .int .i64 (k : Int)), (42, .bool ((j : Int) == (IntKind.i64.wrap ((p : Int) - 1))))] (by kernel_rfl) rfl ?_
              have e67 : (IntKind.i64.wrap ((p : Int) - 1)) = (((p - 1) : Nat) : Int) := by rw [in_i64 (by omega)]; omega
              refine GL.eq (M' := [(1, .int .i64 (j : Int)), (2, .int .i64 (p : Int)), (4, pt p3 0), (8, pt p7 0), (11, pt p57 0), (32, .slice A l.length c), (33, .int .i64 (l.length : Int)), (34, .int .i64 (k : Int)), (42, .bool ((j : Int) == (((p - 1) : Nat) : Int)))]) (by rw [e67]) ?_
              clear e67
              cases hb68 : ((j : Int) == (((p - 1) : Nat) : Int))
              · skip
                have hb68f := ne_of_beq_false hb68
                refine GL.run (j := 10) 5 [1, 2, 4, 8, 11, 12, 32, 33, 34] [(1, .int .i64 (j : Int)), (2, .int .i64 (p : Int)), (4, pt p3 0), (8, pt p7 0), (11, pt p57 0), (12, .bool false), (32, .slice A l.length c), (33, .int .i64 (l.length : Int)), (34, .int .i64 (k : Int))] (by kernel_rfl) rfl ?_
                refine GL.k rfl hK66 (fun _ _ h => h) ?_
                refine G.fit [1, 2, 4, 8, 11, 12, 32, 33, 34] (M' := [(1, .int .i64 (j : Int)), (2, .int .i64 (p : Int)), (4, pt p3 0), (8, pt p7 0), (11, pt p57 0), (12, .bool false), (32, .slice A l.length c), (33, .int .i64 (l.length : Int)), (34, .int .i64 (k : Int))]) (by kernel_rfl) ?_
                refine G.eq (M' := [(1, .int .i64 (j : Int)), (2, .int .i64 (p : Int)), (4, pt p3 0), (8, pt p7 0), (11, pt p57 0), (12, .bool (aloneB j p)), (32, .slice A l.length c), (33, .int .i64 (l.length : Int)), (34, .int .i64 (k : Int))]) (by rw [show aloneB j p = false from by unfold aloneB; exact decide_eq_false (by omega)]) ?_
                exact J64 () _ ⟨trivial, H63⟩
              · skip
                have hb68f := eq_of_beq hb68
                refine GL.run (j := 10) 5 [1, 2, 4, 8, 11, 12, 32, 33, 34] [(1, .int .i64 (j : Int)), (2, .int .i64 (p : Int)), (4, pt p3 0), (8, pt p7 0), (11, pt p57 0), (12, .bool ((Go.bits .and .i64 (p : Int) 1) == 1)), (32, .slice A l.length c), (33, .int .i64 (l.length : Int)), (34, .int .i64 (k : Int))] (by kernel_rfl) rfl ?_
                have e69 : (Go.bits .and .i64 (p : Int) 1) = (((p % 2) : Nat) : Int) := i_andO (by omega)
                refine GL.eq (M' := [(1, .int .i64 (j : Int)), (2, .int .i64 (p : Int)), (4, pt p3 0), (8, pt p7 0), (11, pt p57 0), (12, .bool ((((p % 2) : Nat) : Int) == 1)), (32, .slice A l.length c), (33, .int .i64 (l.length : Int)), (34, .int .i64 (k : Int))]) (by rw [e69]) ?_
                clear e69
                refine GL.k rfl hK66 (fun _ _ h => h) ?_
                refine G.fit [1, 2, 4, 8, 11, 12, 32, 33, 34] (M' := [(1, .int .i64 (j : Int)), (2, .int .i64 (p : Int)), (4, pt p3 0), (8, pt p7 0), (11, pt p57 0), (12, .bool ((((p % 2) : Nat) : Int) == 1)), (32, .slice A l.length c), (33, .int .i64 (l.length : Int)), (34, .int .i64 (k : Int))]) (by kernel_rfl) ?_
                refine G.eq (M' := [(1, .int .i64 (j : Int)), (2, .int .i64 (p : Int)), (4, pt p3 0), (8, pt p7 0), (11, pt p57 0), (12, .bool (aloneB j p)), (32, .slice A l.length c), (33, .int .i64 (l.length : Int)), (34, .int .i64 (k : Int))]) (by rw [show aloneB j p = ((((p % 2) : Nat) : Int) == 1) from by unfold aloneB; rw [Bool.eq_iff_iff]; simp only [decide_eq_true_eq, beq_iff_eq]; omega]) ?_
                exact J64 () _ ⟨trivial, H63⟩
            · skip
              rintro _u w70 ⟨hi71, H72⟩
              refine G.eq (M' := [(1, .int .i64 (j : Int)), (2, .int .i64 (p : Int)), (4, pt p3 0), (8, pt p7 0), (11, pt p57 0), (12, .bool (aloneB j p)), (32, .slice A l.length c), (33, .int .i64 (l.length : Int)), (34, .int .i64 (k : Int))]) rfl ?_
              have H72 : Hp w [] [.blk p3 (by8 X) 25, .blk p7 (by8 (List.replicate 32 0)) 25, .blk p57 (by8 (l.getD k [])) 25] w70 := H72
              refine G.seqJ (X := Unit) (fun _v => [(1, .int .i64 (j : Int)), (2, .int .i64 (p : Int)), (4, pt p3 0), (8, pt p7 0), (32, .slice A l.length c), (33, .int .i64 (l.length : Int)), (34, .int .i64 (k : Int))]) (fun _v w_ => (aloneB j p = decide ((l.getD k []) = X)) ∧ Hp w [] [.blk p3 (by8 (turnH X (l.getD k []) j)) 25, .blk p7 (by8 (List.replicate 32 0)) 25, .blk p57 (by8 (l.getD k [])) 25] w_) (fun J73 K74 hK75 => ?_) ?_
              · skip
                refine G.block ?_
                refine G.seqK fun K76 hK77 => ?_
                refine G.region ?_
                refine GL.run (j := 1) 1 [1, 2, 4, 8, 11, 32, 33, 34, 51] [(1, .int .i64 (j : Int)), (2, .int .i64 (p : Int)), (4, pt p3 0), (8, pt p7 0), (11, pt p57 0), (32, .slice A l.length c), (33, .int .i64 (l.length : Int)), (34, .int .i64 (k : Int)), (51, .bool (aloneB j p))] (by kernel_rfl) rfl ?_
                refine GL.sem (j := 2) (H72.ldA (o := 0) (ty := 25) (m := 32) (sub := by8 (l.getD k [])) 2 rfl (by kernel_rfl) (sub_whole (by rw [by8_length, ok32_at hok (by omega)])) (by rw [by8_length, ok32_at hok (by omega)])) [1, 2, 4, 8, 11, 32, 33, 34, 51, 52] [(1, .int .i64 (j : Int)), (2, .int .i64 (p : Int)), (4, pt p3 0), (8, pt p7 0), (11, pt p57 0), (32, .slice A l.length c), (33, .int .i64 (l.length : Int)), (34, .int .i64 (k : Int)), (51, .bool (aloneB j p)), (52, .agg (by8 (l.getD k [])).toArray)] (by kernel_rfl) (by kernel_rfl) rfl ?_
                refine GL.sem (j := 3) (H72.ldA (o := 0) (ty := 25) (m := 32) (sub := by8 X) 0 rfl (by kernel_rfl) (sub_whole (by rw [by8_length, hX])) (by rw [by8_length, hX])) [1, 2, 4, 8, 11, 32, 33, 34, 51, 52, 53] [(1, .int .i64 (j : Int)), (2, .int .i64 (p : Int)), (4, pt p3 0), (8, pt p7 0), (11, pt p57 0), (32, .slice A l.length c), (33, .int .i64 (l.length : Int)), (34, .int .i64 (k : Int)), (51, .bool (aloneB j p)), (52, .agg (by8 (l.getD k [])).toArray), (53, .agg (by8 X).toArray)] (by kernel_rfl) (by kernel_rfl) rfl ?_
                refine GL.sem (j := 4) (run_by8_eql (P := Try.prog) (t := 25) (n := 32) (x := (.tmp 52)) (y := (.tmp 53)) (by kernel_rfl) (l.getD k []) X (by rw [ok32_at hok (by omega)]) (by rw [hX]) _) [1, 2, 4, 8, 11, 32, 33, 34, 51, 54] [(1, .int .i64 (j : Int)), (2, .int .i64 (p : Int)), (4, pt p3 0), (8, pt p7 0), (11, pt p57 0), (32, .slice A l.length c), (33, .int .i64 (l.length : Int)), (34, .int .i64 (k : Int)), (51, .bool (aloneB j p)), (54, .bool (decide ((l.getD k []) = X)))] (by kernel_rfl) (by kernel_rfl) rfl ?_
                refine GL.run (j := 6) 2 [1, 2, 4, 8, 11, 32, 33, 34, 50] [(1, .int .i64 (j : Int)), (2, .int .i64 (p : Int)), (4, pt p3 0), (8, pt p7 0), (11, pt p57 0), (32, .slice A l.length c), (33, .int .i64 (l.length : Int)), (34, .int .i64 (k : Int)), (50, .bool (!((aloneB j p) == (decide ((l.getD k []) = X)))))] (by kernel_rfl) rfl ?_
                refine GL.k rfl hK77 (fun _ _ h => h) ?_
                cases hb78 : ((aloneB j p) == (decide ((l.getD k []) = X)))
                · skip
                  have hb78f := ne_of_beq_false hb78
                  have hne : aloneB j p ≠ decide (l.getD k [] = X) := by simpa using hb78
                  have hcv : climbR l g i n = (List.replicate 32 0, false) := by rw [← hcl, climbR_stop (by omega) (by omega) hne]
                  refine G.yes rfl ?_
                  refine G.seqK fun K79 hK80 => ?_
                  refine G.region ?_
                  refine GL.run (j := 1) 1 [8, 56] [(8, pt p7 0), (56, .agg (by8 (List.replicate 32 0)).toArray)] (by kernel_rfl) rfl ?_
                  obtain ⟨w81, r82, H83⟩ := H72.stA (P := Try.prog) (o := 0) (vs := by8 (List.replicate 32 0)) (ty := 25) (m := 32) 1 rfl (by kernel_rfl) (by rw [by8_length, List.length_replicate]) (Nat.le_of_eq (by rw [Nat.zero_add]; exact ((show (by8 (List.replicate 32 0)).length = 32 from by rw [by8_length]; rfl)).symm)) (by8_one _)
                  rw [st_whole (by rw [by8_length]; rfl)] at H83
                  have H83 : Hp w [] [.blk p3 (by8 X) 25, .blk p7 (by8 (List.replicate 32 0)) 25, .blk p57 (by8 (l.getD k [])) 25] w81 := H83
                  refine GL.semU (j := 2) r82 [8] [(8, pt p7 0)] (by kernel_rfl) rfl rfl rfl ?_
                  refine GL.run (j := 3) 1 [8, 9] [(8, pt p7 0), (9, .int .i64 14)] (by kernel_rfl) rfl ?_
                  refine GL.k rfl hK80 (fun _ _ h => h) ?_
                  refine G.ret ?_
                  intro F_ hF_ hM_
                  refine hRet _ _ (bodyPost_2 rfl (RV.cell rfl (H83.ldA (o := 0) (ty := 25) (m := 32) (sub := by8 (List.replicate 32 0)) 1 rfl (by kernel_rfl) (sub_whole (by rw [by8_length, List.length_replicate])) (by rw [by8_length, List.length_replicate]))) (RV.tmp rfl) ?_ F_ hF_ hM_)
                  have e1 : climbE l g (i : Int) (n : Int) = 14 := by unfold climbE; rw [if_pos hgd, if_neg (by rw [Int.toNat_natCast, Int.toNat_natCast, hcv]; decide)]
                  have e2 : climbV l g (i : Int) (n : Int) = (List.replicate 32 0) := by unfold climbV; rw [e1, if_neg (by decide)]
                  rw [e1, e2]
                  exact ⟨rfl, H83.sub (List.nil_sublist _)⟩
                · skip
                  have hb78f := eq_of_beq hb78
                  have heqk : aloneB j p = decide (l.getD k [] = X) := by simpa using hb78
                  refine G.no rfl ?_
                  refine G.seqK fun K84 hK85 => ?_
                  refine G.region ?_
                  refine GL.run (j := 4) 4 [1, 2, 4, 8, 11, 32, 33, 34, 57] [(1, .int .i64 (j : Int)), (2, .int .i64 (p : Int)), (4, pt p3 0), (8, pt p7 0), (11, pt p57 0), (32, .slice A l.length c), (33, .int .i64 (l.length : Int)), (34, .int .i64 (k : Int)), (57, .bool ((Go.bits .and .i64 (j : Int) 1) == 1))] (by kernel_rfl) rfl ?_
                  have e86 : (Go.bits .and .i64 (j : Int) 1) = (((j % 2) : Nat) : Int) := i_andO (by omega)
                  refine GL.eq (M' := [(1, .int .i64 (j : Int)), (2, .int .i64 (p : Int)), (4, pt p3 0), (8, pt p7 0), (11, pt p57 0), (32, .slice A l.length c), (33, .int .i64 (l.length : Int)), (34, .int .i64 (k : Int)), (57, .bool ((((j % 2) : Nat) : Int) == 1))]) (by rw [e86]) ?_
                  clear e86
                  refine GL.k rfl hK85 (fun _ _ h => h) ?_
                  cases hb87 : ((((j % 2) : Nat) : Int) == 1)
                  · skip
                    have hb87f := ne_of_beq_false hb87
                    refine G.no rfl ?_
                    refine G.region ?_
                    refine GL.sem (j := 1) (H72.ldA (o := 0) (ty := 25) (m := 32) (sub := by8 X) 0 rfl (by kernel_rfl) (sub_whole (by rw [by8_length, hX])) (by rw [by8_length, hX])) [1, 2, 4, 8, 11, 32, 33, 34, 47] [(1, .int .i64 (j : Int)), (2, .int .i64 (p : Int)), (4, pt p3 0), (8, pt p7 0), (11, pt p57 0), (32, .slice A l.length c), (33, .int .i64 (l.length : Int)), (34, .int .i64 (k : Int)), (47, .agg (by8 X).toArray)] (by kernel_rfl) (by kernel_rfl) rfl ?_
                    refine GL.sem (j := 2) (H72.ldA (o := 0) (ty := 25) (m := 32) (sub := by8 (l.getD k [])) 2 rfl (by kernel_rfl) (sub_whole (by rw [by8_length, ok32_at hok (by omega)])) (by rw [by8_length, ok32_at hok (by omega)])) [1, 2, 4, 8, 32, 33, 34, 47, 48] [(1, .int .i64 (j : Int)), (2, .int .i64 (p : Int)), (4, pt p3 0), (8, pt p7 0), (32, .slice A l.length c), (33, .int .i64 (l.length : Int)), (34, .int .i64 (k : Int)), (47, .agg (by8 X).toArray), (48, .agg (by8 (l.getD k [])).toArray)] (by kernel_rfl) (by kernel_rfl) rfl ?_
                    refine GL.call (j := 3) (Both_calls X (l.getD k []) (by rw [hX]) (by rw [ok32_at hok (by omega)]) w70) (by kernel_rfl) rfl (fun e_ w88 hR => ?_)
                    obtain ⟨rfl, H90⟩ := hR
                    have H89 : Hp w [] [.blk p3 (by8 X) 25, .blk p7 (by8 (List.replicate 32 0)) 25, .blk p57 (by8 (l.getD k [])) 25] w88 := H72.callNil H90
                    refine ⟨_, rfl, [1, 2, 4, 8, 32, 33, 34, 49], [(1, .int .i64 (j : Int)), (2, .int .i64 (p : Int)), (4, pt p3 0), (8, pt p7 0), (32, .slice A l.length c), (33, .int .i64 (l.length : Int)), (34, .int .i64 (k : Int)), (49, .agg (by8 (bothH X (l.getD k []))).toArray)], by kernel_rfl, ?_⟩
                    obtain ⟨w91, r92, H93⟩ := H89.stA (P := Try.prog) (o := 0) (vs := by8 (bothH X (l.getD k []))) (ty := 25) (m := 32) 0 rfl (by kernel_rfl) (by rw [by8_length, bothH_length]) (Nat.le_of_eq (by rw [Nat.zero_add]; exact ((show (by8 X).length = 32 from by rw [by8_length, hX])).symm)) (by8_one _)
                    rw [st_whole (by rw [by8_length, hX])] at H93
                    have H93 : Hp w [] [.blk p3 (by8 (bothH X (l.getD k []))) 25, .blk p7 (by8 (List.replicate 32 0)) 25, .blk p57 (by8 (l.getD k [])) 25] w91 := H93
                    refine GL.semU (j := 4) r92 [1, 2, 4, 8, 32, 33, 34] [(1, .int .i64 (j : Int)), (2, .int .i64 (p : Int)), (4, pt p3 0), (8, pt p7 0), (32, .slice A l.length c), (33, .int .i64 (l.length : Int)), (34, .int .i64 (k : Int))] (by kernel_rfl) rfl rfl rfl ?_
                    refine GL.k rfl hK75 (fun _ _ h => h) ?_
                    have H94 : Hp w [] [.blk p3 (by8 (turnH X (l.getD k []) j)) 25, .blk p7 (by8 (List.replicate 32 0)) 25, .blk p57 (by8 (l.getD k [])) 25] w91 := by unfold turnH; rw [if_neg (by omega)]; exact H93
                    refine G.fit [1, 2, 4, 8, 32, 33, 34] (M' := [(1, .int .i64 (j : Int)), (2, .int .i64 (p : Int)), (4, pt p3 0), (8, pt p7 0), (32, .slice A l.length c), (33, .int .i64 (l.length : Int)), (34, .int .i64 (k : Int))]) (by kernel_rfl) ?_
                    exact J73 () _ ⟨heqk, H94⟩
                  · skip
                    have hb87f := eq_of_beq hb87
                    refine G.yes rfl ?_
                    refine G.region ?_
                    refine GL.sem (j := 1) (H72.ldA (o := 0) (ty := 25) (m := 32) (sub := by8 (l.getD k [])) 2 rfl (by kernel_rfl) (sub_whole (by rw [by8_length, ok32_at hok (by omega)])) (by rw [by8_length, ok32_at hok (by omega)])) [1, 2, 4, 8, 32, 33, 34, 61] [(1, .int .i64 (j : Int)), (2, .int .i64 (p : Int)), (4, pt p3 0), (8, pt p7 0), (32, .slice A l.length c), (33, .int .i64 (l.length : Int)), (34, .int .i64 (k : Int)), (61, .agg (by8 (l.getD k [])).toArray)] (by kernel_rfl) (by kernel_rfl) rfl ?_
                    refine GL.sem (j := 2) (H72.ldA (o := 0) (ty := 25) (m := 32) (sub := by8 X) 0 rfl (by kernel_rfl) (sub_whole (by rw [by8_length, hX])) (by rw [by8_length, hX])) [1, 2, 4, 8, 32, 33, 34, 61, 62] [(1, .int .i64 (j : Int)), (2, .int .i64 (p : Int)), (4, pt p3 0), (8, pt p7 0), (32, .slice A l.length c), (33, .int .i64 (l.length : Int)), (34, .int .i64 (k : Int)), (61, .agg (by8 (l.getD k [])).toArray), (62, .agg (by8 X).toArray)] (by kernel_rfl) (by kernel_rfl) rfl ?_
                    refine GL.call (j := 3) (Both_calls (l.getD k []) X (by rw [ok32_at hok (by omega)]) (by rw [hX]) w70) (by kernel_rfl) rfl (fun e_ w95 hR => ?_)
                    obtain ⟨rfl, H97⟩ := hR
                    have H96 : Hp w [] [.blk p3 (by8 X) 25, .blk p7 (by8 (List.replicate 32 0)) 25, .blk p57 (by8 (l.getD k [])) 25] w95 := H72.callNil H97
                    refine ⟨_, rfl, [1, 2, 4, 8, 32, 33, 34, 63], [(1, .int .i64 (j : Int)), (2, .int .i64 (p : Int)), (4, pt p3 0), (8, pt p7 0), (32, .slice A l.length c), (33, .int .i64 (l.length : Int)), (34, .int .i64 (k : Int)), (63, .agg (by8 (bothH (l.getD k []) X)).toArray)], by kernel_rfl, ?_⟩
                    obtain ⟨w98, r99, H100⟩ := H96.stA (P := Try.prog) (o := 0) (vs := by8 (bothH (l.getD k []) X)) (ty := 25) (m := 32) 0 rfl (by kernel_rfl) (by rw [by8_length, bothH_length]) (Nat.le_of_eq (by rw [Nat.zero_add]; exact ((show (by8 X).length = 32 from by rw [by8_length, hX])).symm)) (by8_one _)
                    rw [st_whole (by rw [by8_length, hX])] at H100
                    have H100 : Hp w [] [.blk p3 (by8 (bothH (l.getD k []) X)) 25, .blk p7 (by8 (List.replicate 32 0)) 25, .blk p57 (by8 (l.getD k [])) 25] w98 := H100
                    refine GL.semU (j := 4) r99 [1, 2, 4, 8, 32, 33, 34] [(1, .int .i64 (j : Int)), (2, .int .i64 (p : Int)), (4, pt p3 0), (8, pt p7 0), (32, .slice A l.length c), (33, .int .i64 (l.length : Int)), (34, .int .i64 (k : Int))] (by kernel_rfl) rfl rfl rfl ?_
                    refine GL.k rfl hK75 (fun _ _ h => h) ?_
                    have H101 : Hp w [] [.blk p3 (by8 (turnH X (l.getD k []) j)) 25, .blk p7 (by8 (List.replicate 32 0)) 25, .blk p57 (by8 (l.getD k [])) 25] w98 := by unfold turnH; rw [if_pos (by omega)]; exact H100
                    refine G.fit [1, 2, 4, 8, 32, 33, 34] (M' := [(1, .int .i64 (j : Int)), (2, .int .i64 (p : Int)), (4, pt p3 0), (8, pt p7 0), (32, .slice A l.length c), (33, .int .i64 (l.length : Int)), (34, .int .i64 (k : Int))]) (by kernel_rfl) ?_
                    exact J73 () _ ⟨heqk, H101⟩
              · skip
                rintro _v w102 ⟨hi103, H104⟩
                refine G.eq (M' := [(1, .int .i64 (j : Int)), (2, .int .i64 (p : Int)), (4, pt p3 0), (8, pt p7 0), (32, .slice A l.length c), (33, .int .i64 (l.length : Int)), (34, .int .i64 (k : Int))]) rfl ?_
                have H104 : Hp w [] [.blk p3 (by8 (turnH X (l.getD k []) j)) 25, .blk p7 (by8 (List.replicate 32 0)) 25, .blk p57 (by8 (l.getD k [])) 25] w102 := H104
                have heqk := hi103
                refine G.seqK fun K105 hK106 => ?_
                refine G.region ?_
                refine GL.run (j := 7) 7 [1, 2, 4, 8, 32, 33, 34] [(1, .int .i64 (IntKind.i64.wrap (Int.tdiv (j : Int) 2))), (2, .int .i64 (IntKind.i64.wrap (Int.tdiv (IntKind.i64.wrap ((p : Int) + 1)) 2))), (4, pt p3 0), (8, pt p7 0), (32, .slice A l.length c), (33, .int .i64 (l.length : Int)), (34, .int .i64 (k : Int))] (by kernel_rfl) rfl ?_
                have e107 : (IntKind.i64.wrap (Int.tdiv (j : Int) 2)) = (((j / 2) : Nat) : Int) := i_quo (a := j) 2 (by omega)
                have e108 : (IntKind.i64.wrap ((p : Int) + 1)) = ((p + 1 : Nat) : Int) := by rw [in_i64 (by omega)]; omega
                have e109 : (IntKind.i64.wrap (Int.tdiv ((p + 1 : Nat) : Int) 2)) = ((((p + 1) / 2) : Nat) : Int) := i_quo (a := (p + 1)) 2 (by omega)
                refine GL.eq (M' := [(1, .int .i64 (((j / 2) : Nat) : Int)), (2, .int .i64 ((((p + 1) / 2) : Nat) : Int)), (4, pt p3 0), (8, pt p7 0), (32, .slice A l.length c), (33, .int .i64 (l.length : Int)), (34, .int .i64 (k : Int))]) (by rw [e107, e108, e109]) ?_
                clear e107 e108 e109
                refine GL.k rfl hK106 (fun _ _ h => h) ?_
                refine G.seqK fun K110 hK111 => ?_
                refine G.region ?_
                refine GL.run (j := 2) 2 [1, 2, 4, 8, 32, 33, 34, 70] [(1, .int .i64 (((j / 2) : Nat) : Int)), (2, .int .i64 ((((p + 1) / 2) : Nat) : Int)), (4, pt p3 0), (8, pt p7 0), (32, .slice A l.length c), (33, .int .i64 (l.length : Int)), (34, .int .i64 (k : Int)), (70, .bool (((((p + 1) / 2) : Nat) : Int) == 1))] (by kernel_rfl) rfl ?_
                refine GL.k rfl hK111 (fun _ _ h => h) ?_
                cases hb112 : (((((p + 1) / 2) : Nat) : Int) == 1)
                · skip
                  have hb112f := ne_of_beq_false hb112
                  refine G.no rfl ?_
                  refine G.skipK hK54 (fun _ _ h => h) ?_
                  refine G.region ?_
                  refine GL.run (j := 2) 2 [1, 2, 4, 8, 32, 33, 34] [(1, .int .i64 (((j / 2) : Nat) : Int)), (2, .int .i64 ((((p + 1) / 2) : Nat) : Int)), (4, pt p3 0), (8, pt p7 0), (32, .slice A l.length c), (33, .int .i64 (l.length : Int)), (34, .int .i64 (IntKind.i64.wrap ((k : Int) + 1)))] (by kernel_rfl) rfl ?_
                  have e113 : (IntKind.i64.wrap ((k : Int) + 1)) = ((k + 1 : Nat) : Int) := by rw [in_i64 (by omega)]; omega
                  refine GL.eq (M' := [(1, .int .i64 (((j / 2) : Nat) : Int)), (2, .int .i64 ((((p + 1) / 2) : Nat) : Int)), (4, pt p3 0), (8, pt p7 0), (32, .slice A l.length c), (33, .int .i64 (l.length : Int)), (34, .int .i64 ((k + 1 : Nat) : Int))]) (by rw [e113]) ?_
                  clear e113
                  have H114 : Hp w [] [.blk p3 (by8 (turnH X (l.getD k []) j)) 25, .blk p7 (by8 (List.replicate 32 0)) 25] w102 := H104.sub (List.Sublist.cons_cons _ (List.Sublist.cons_cons _ (List.Sublist.cons _ (List.Sublist.slnil))))
                  refine GL.fit (ts := [1, 2, 4, 8, 32, 33, 34]) (M' := [(1, .int .i64 (((j / 2) : Nat) : Int)), (2, .int .i64 ((((p + 1) / 2) : Nat) : Int)), (4, pt p3 0), (8, pt p7 0), (32, .slice A l.length c), (33, .int .i64 (l.length : Int)), (34, .int .i64 ((k + 1 : Nat) : Int))]) (by kernel_rfl) ?_
                  refine GL.eq (M' := [(1, .int .i64 (((j / 2) : Nat) : Int)), (2, .int .i64 ((((p + 1) / 2) : Nat) : Int)), (4, pt p3 0), (8, pt p7 0), (32, .slice A l.length c), (33, .int .i64 (l.length : Int)), (34, .int .i64 (((k + 1) : Nat) : Int))]) (by rfl) ?_
                  exact GL.again ⟨(k + 1), (turnH X (l.getD k []) j), (j / 2), ((p + 1) / 2)⟩ [1, 2, 4, 8, 32, 33, 34] rfl (by kernel_rfl) (by show l.length - (k + 1) < l.length - k; omega) ⟨⟨by rw [← climbR_on (by omega) (by omega) (by assumption)]; exact hcl, turnH_length _ _ _, by omega, by rw [hcs] at hcn; omega, by omega, by omega⟩, H114⟩
                · skip
                  have hb112f := eq_of_beq hb112
                  have hcv : climbR l g i n = (turnH X (l.getD k []) j, true) := by rw [← hcl, climbR_on (by omega) (by omega) heqk, show (p + 1) / 2 = 1 by omega, climbR_one, List.length_drop, show l.length - (k + 1) = 0 by rw [cntH_step hp2, cntH_one (by omega)] at hcn; omega]; rfl
                  refine G.yes rfl ?_
                  refine G.exitK hK37 (fun _ _ h => h) ?_
                  refine G.seqK fun K115 hK116 => ?_
                  refine G.region ?_
                  refine GL.sem (j := 1) (H104.ldA (o := 0) (ty := 25) (m := 32) (sub := by8 (turnH X (l.getD k []) j)) 0 rfl (by kernel_rfl) (sub_whole (by rw [by8_length, turnH_length _ _ _])) (by rw [by8_length, turnH_length _ _ _])) [8, 72] [(8, pt p7 0), (72, .agg (by8 (turnH X (l.getD k []) j)).toArray)] (by kernel_rfl) (by kernel_rfl) rfl ?_
                  obtain ⟨w117, r118, H119⟩ := H104.stA (P := Try.prog) (o := 0) (vs := by8 (turnH X (l.getD k []) j)) (ty := 25) (m := 32) 1 rfl (by kernel_rfl) (by rw [by8_length, turnH_length _ _ _]) (Nat.le_of_eq (by rw [Nat.zero_add]; exact ((show (by8 (List.replicate 32 0)).length = 32 from by rw [by8_length]; rfl)).symm)) (by8_one _)
                  rw [st_whole (by rw [by8_length]; rfl)] at H119
                  have H119 : Hp w [] [.blk p3 (by8 (turnH X (l.getD k []) j)) 25, .blk p7 (by8 (turnH X (l.getD k []) j)) 25, .blk p57 (by8 (l.getD k [])) 25] w117 := H119
                  refine GL.semU (j := 2) r118 [8] [(8, pt p7 0)] (by kernel_rfl) rfl rfl rfl ?_
                  refine GL.run (j := 3) 1 [8, 9] [(8, pt p7 0), (9, .int .i64 0)] (by kernel_rfl) rfl ?_
                  refine GL.k rfl hK116 (fun _ _ h => h) ?_
                  refine G.ret ?_
                  intro F_ hF_ hM_
                  refine hRet _ _ (bodyPost_2 rfl (RV.cell rfl (H119.ldA (o := 0) (ty := 25) (m := 32) (sub := by8 (turnH X (l.getD k []) j)) 1 rfl (by kernel_rfl) (sub_whole (by rw [by8_length, turnH_length _ _ _])) (by rw [by8_length, turnH_length _ _ _]))) (RV.tmp rfl) ?_ F_ hF_ hM_)
                  have e1 : climbE l g (i : Int) (n : Int) = 0 := by unfold climbE; rw [if_pos hgd, if_pos (by rw [Int.toNat_natCast, Int.toNat_natCast, hcv])]
                  have e2 : climbV l g (i : Int) (n : Int) = turnH X (l.getD k []) j := by unfold climbV; rw [e1, if_pos rfl, Int.toNat_natCast, Int.toNat_natCast, hcv]
                  rw [e1, e2]
                  exact ⟨rfl, H119.sub (List.nil_sublist _)⟩
        · skip
          have hb33f : (l.length : Int) ≠ (((rowsN n) : Nat) : Int) := bne_iff_ne.1 hb33
          have hno : (climbR l g i n).2 ≠ true := fun h => by have := climbR_len l g i n (by omega) h; omega
          refine G.yes rfl ?_
          refine G.seqK fun K120 hK121 => ?_
          refine G.region ?_
          refine GL.run (j := 1) 1 [8, 31] [(8, pt p7 0), (31, .agg (by8 (List.replicate 32 0)).toArray)] (by kernel_rfl) rfl ?_
          obtain ⟨w122, r123, H124⟩ := H31.stA (P := Try.prog) (o := 0) (vs := by8 (List.replicate 32 0)) (ty := 25) (m := 32) 1 rfl (by kernel_rfl) (by rw [by8_length, List.length_replicate]) (Nat.le_of_eq (by rw [Nat.zero_add]; exact ((show (by8 (List.replicate 32 0)).length = 32 from by rw [by8_length]; rfl)).symm)) (by8_one _)
          rw [st_whole (by rw [by8_length]; rfl)] at H124
          have H124 : Hp w [] [.blk p3 (by8 g) 25, .blk p7 (by8 (List.replicate 32 0)) 25] w122 := H124
          refine GL.semU (j := 2) r123 [8] [(8, pt p7 0)] (by kernel_rfl) rfl rfl rfl ?_
          refine GL.run (j := 3) 1 [8, 9] [(8, pt p7 0), (9, .int .i64 14)] (by kernel_rfl) rfl ?_
          refine GL.k rfl hK121 (fun _ _ h => h) ?_
          refine G.ret ?_
          intro F_ hF_ hM_
          refine hRet _ _ (bodyPost_2 rfl (RV.cell rfl (H124.ldA (o := 0) (ty := 25) (m := 32) (sub := by8 (List.replicate 32 0)) 1 rfl (by kernel_rfl) (sub_whole (by rw [by8_length, List.length_replicate])) (by rw [by8_length, List.length_replicate]))) (RV.tmp rfl) ?_ F_ hF_ hM_)
          have e1 : climbE l g (i : Int) (n : Int) = 14 := by unfold climbE; rw [if_pos hgd, if_neg (by exact hno)]
          have e2 : climbV l g (i : Int) (n : Int) = (List.replicate 32 0) := by unfold climbV; rw [e1, if_neg (by decide)]
          rw [e1, e2]
          exact ⟨rfl, H124.sub (List.nil_sublist _)⟩
      · skip
        have hb25f := of_decide_eq_true hb25
        have hbad : ¬ (leafB m = true ∧ 0 ≤ z ∧ z < m) := by omega
        refine G.yes rfl ?_
        refine G.seqK fun K125 hK126 => ?_
        refine G.region ?_
        refine GL.run (j := 1) 1 [8, 25] [(8, pt p7 0), (25, .agg (by8 (List.replicate 32 0)).toArray)] (by kernel_rfl) rfl ?_
        obtain ⟨w127, r128, H129⟩ := H16.stA (P := Try.prog) (o := 0) (vs := by8 (List.replicate 32 0)) (ty := 25) (m := 32) 1 rfl (by kernel_rfl) (by rw [by8_length, List.length_replicate]) (Nat.le_of_eq (by rw [Nat.zero_add]; exact ((show (by8 (List.replicate 32 0)).length = 32 from by rw [by8_length]; rfl)).symm)) (by8_one _)
        rw [st_whole (by rw [by8_length]; rfl)] at H129
        have H129 : Hp w [] [.blk p3 (by8 g) 25, .blk p7 (by8 (List.replicate 32 0)) 25] w127 := H129
        refine GL.semU (j := 2) r128 [8] [(8, pt p7 0)] (by kernel_rfl) rfl rfl rfl ?_
        refine GL.run (j := 3) 1 [8, 9] [(8, pt p7 0), (9, .int .i64 1)] (by kernel_rfl) rfl ?_
        refine GL.k rfl hK126 (fun _ _ h => h) ?_
        refine G.ret ?_
        intro F_ hF_ hM_
        refine hRet _ _ (bodyPost_2 rfl (RV.cell rfl (H129.ldA (o := 0) (ty := 25) (m := 32) (sub := by8 (List.replicate 32 0)) 1 rfl (by kernel_rfl) (sub_whole (by rw [by8_length, List.length_replicate])) (by rw [by8_length, List.length_replicate]))) (RV.tmp rfl) ?_ F_ hF_ hM_)
        have e1 : climbE l g z m = 1 := by unfold climbE; rw [if_neg hbad]
        have e2 : climbV l g z m = (List.replicate 32 0) := by unfold climbV; rw [e1, if_neg (by decide)]
        rw [e1, e2]
        exact ⟨rfl, H129.sub (List.nil_sublist _)⟩
    · skip
      have hb24f := of_decide_eq_true hb24
      have hbad : ¬ (leafB m = true ∧ 0 ≤ z ∧ z < m) := by omega
      refine GL.run (j := 12) 4 [1, 2, 3, 4, 8, 24] [(1, .int .i64 z), (2, .int .i64 m), (3, .slice A l.length c), (4, pt p3 0), (8, pt p7 0), (24, .bool true)] (by kernel_rfl) rfl ?_
      refine GL.k rfl hK14 (fun _ _ h => h) ?_
      refine G.yes rfl ?_
      refine G.seqK fun K130 hK131 => ?_
      refine G.region ?_
      refine GL.run (j := 1) 1 [8, 25] [(8, pt p7 0), (25, .agg (by8 (List.replicate 32 0)).toArray)] (by kernel_rfl) rfl ?_
      obtain ⟨w132, r133, H134⟩ := H16.stA (P := Try.prog) (o := 0) (vs := by8 (List.replicate 32 0)) (ty := 25) (m := 32) 1 rfl (by kernel_rfl) (by rw [by8_length, List.length_replicate]) (Nat.le_of_eq (by rw [Nat.zero_add]; exact ((show (by8 (List.replicate 32 0)).length = 32 from by rw [by8_length]; rfl)).symm)) (by8_one _)
      rw [st_whole (by rw [by8_length]; rfl)] at H134
      have H134 : Hp w [] [.blk p3 (by8 g) 25, .blk p7 (by8 (List.replicate 32 0)) 25] w132 := H134
      refine GL.semU (j := 2) r133 [8] [(8, pt p7 0)] (by kernel_rfl) rfl rfl rfl ?_
      refine GL.run (j := 3) 1 [8, 9] [(8, pt p7 0), (9, .int .i64 1)] (by kernel_rfl) rfl ?_
      refine GL.k rfl hK131 (fun _ _ h => h) ?_
      refine G.ret ?_
      intro F_ hF_ hM_
      refine hRet _ _ (bodyPost_2 rfl (RV.cell rfl (H134.ldA (o := 0) (ty := 25) (m := 32) (sub := by8 (List.replicate 32 0)) 1 rfl (by kernel_rfl) (sub_whole (by rw [by8_length, List.length_replicate])) (by rw [by8_length, List.length_replicate]))) (RV.tmp rfl) ?_ F_ hF_ hM_)
      have e1 : climbE l g z m = 1 := by unfold climbE; rw [if_neg hbad]
      have e2 : climbV l g z m = (List.replicate 32 0) := by unfold climbV; rw [e1, if_neg (by decide)]
      rw [e1, e2]
      exact ⟨rfl, H134.sub (List.nil_sublist _)⟩
end Go.Proofs.Ytgmggjnoegelgaa
namespace Go.Proofs.Ytgmggjnoegelgaa
open Go.RowKit
def checkB (l : List (List UInt8)) (r g : List UInt8) (z m : Int) : Bool := decide (climbE l g z m = 0 ∧ climbV l g z m = r)
theorem RdS.rest32 {w : World} {A : Option Addr} {l : List (List UInt8)} {c : Nat} (h : RdS w A (by8 (flat8 l))) (hok : ok32 l) (hc : l.length ≤ c) : RdS w (if c = 1 then A else Option.map (fun x => Addr.add x (1 * 32)) A) (by8 (flat8 (l.drop 1))) := by
  by_cases h1 : l.length ≤ 1
  · rw [List.drop_eq_nil_of_le h1]
    exact RdS.nil _ _
  · rw [if_neg (by omega), ← flat8_drop hok]
    have hl := flat8_length hok
    have h2 := RdS.drop8 h (cap := 33 + (flat8 l).length) 32 (by omega) rfl
    rw [if_neg (by omega)] at h2
    exact h2
theorem Check_calls2 (r : List UInt8) (hr : r.length = 32) (g : List UInt8) (hg : g.length = 32) (z m : Int) (A : Option Addr) (c : Nat) (l : List (List UInt8)) (w : World) (hx : RdS w A (by8 (flat8 l))) (hok : ok32 l) (hc : l.length ≤ c) : Calls Try.prog 17 #[.agg (by8 r).toArray, .agg (by8 g).toArray, .int .i64 z, .int .i64 m, .slice A l.length c] w fun e w' => e = .returned (.bool (checkB l r g z m)) ∧ Hp w [] [] w' := by
  refine calls_G (args := [.agg (by8 r).toArray, .agg (by8 g).toArray, .int .i64 z, .int .i64 m, .slice A l.length c]) Try.func17 rfl Try.ntmps17 rfl ?_
  intro Q0 hRet hNor hPan
  have H := Hp.start w
  have H : Hp w [] [] w := H
  refine G.seqK fun K1 hK2 => ?_
  refine G.region ?_
  obtain ⟨p3, w4, r5, H6⟩ := H.box (P := Try.prog) 25 (by8 r) (.agg (by8 r).toArray) rfl
  have H6 : Hp w [] [.blk p3 (by8 r) 25] w4 := H6
  refine GL.sem (j := 1) (r5) [1, 2, 3, 4, 5] [(1, .agg (by8 g).toArray), (2, .int .i64 z), (3, .int .i64 m), (4, .slice A l.length c), (5, pt p3 0)] (by kernel_rfl) (by kernel_rfl) rfl ?_
  obtain ⟨p7, w8, r9, H10⟩ := H6.box (P := Try.prog) 25 (by8 g) (.agg (by8 g).toArray) rfl
  have H10 : Hp w [] [.blk p3 (by8 r) 25, .blk p7 (by8 g) 25] w8 := H10
  refine GL.sem (j := 2) (r9) [2, 3, 4, 5, 6] [(2, .int .i64 z), (3, .int .i64 m), (4, .slice A l.length c), (5, pt p3 0), (6, pt p7 0)] (by kernel_rfl) (by kernel_rfl) rfl ?_
  refine GL.run (j := 3) 1 [2, 3, 4, 5, 6] [(2, .int .i64 z), (3, .int .i64 m), (4, .slice A l.length c), (5, pt p3 0), (6, pt p7 0)] (by kernel_rfl) rfl ?_
  refine GL.k rfl hK2 (fun _ _ h => h) ?_
  refine G.seqK fun K11 hK12 => ?_
  refine G.region ?_
  refine GL.sem (j := 1) (H10.ldA (o := 0) (ty := 25) (m := 32) (sub := by8 g) 1 rfl (by kernel_rfl) (sub_whole (by rw [by8_length, hg])) (by rw [by8_length, hg])) [2, 3, 4, 5, 14] [(2, .int .i64 z), (3, .int .i64 m), (4, .slice A l.length c), (5, pt p3 0), (14, .agg (by8 g).toArray)] (by kernel_rfl) (by kernel_rfl) rfl ?_
  refine GL.run (j := 4) 3 [5, 14, 15, 16, 17] [(5, pt p3 0), (14, .agg (by8 g).toArray), (15, .int .i64 z), (16, .int .i64 m), (17, .slice A l.length c)] (by kernel_rfl) rfl ?_
  refine GL.call (j := 5) (Climb_calls g (by rw [hg]) z m A c l w8 (hx.hp H10) hok (by omega)) (by kernel_rfl) rfl (fun e_ w13 hR => ?_)
  obtain ⟨rfl, H15⟩ := hR
  have H14 : Hp w [] [.blk p3 (by8 r) 25, .blk p7 (by8 g) 25] w13 := H10.callNil H15
  refine ⟨_, rfl, [5, 18], [(5, pt p3 0), (18, .tuple #[.agg (by8 (climbV l g z m)).toArray, .int .i64 (((climbE l g z m) : Nat) : Int)])], by kernel_rfl, ?_⟩
  refine GL.run (j := 8) 3 [5, 19, 20] [(5, pt p3 0), (19, .agg (by8 (climbV l g z m)).toArray), (20, .int .i64 (((climbE l g z m) : Nat) : Int))] (by kernel_rfl) rfl ?_
  obtain ⟨p16, w17, r18, H19⟩ := H14.alloc (P := Try.prog) 25 (by8 (List.replicate 32 0)) (by kernel_rfl)
  have H19 : Hp w [] [.blk p3 (by8 r) 25, .blk p7 (by8 g) 25, .blk p16 (by8 (List.replicate 32 0)) 25] w17 := H19
  refine GL.sem (j := 9) (r18) [5, 11, 19, 20] [(5, pt p3 0), (11, pt p16 0), (19, .agg (by8 (climbV l g z m)).toArray), (20, .int .i64 (((climbE l g z m) : Nat) : Int))] (by kernel_rfl) (by kernel_rfl) rfl ?_
  obtain ⟨w20, r21, H22⟩ := H19.stA (P := Try.prog) (o := 0) (vs := by8 (climbV l g z m)) (ty := 25) (m := 32) 2 rfl (by kernel_rfl) (by rw [by8_length, climbV_length hg]) (Nat.le_of_eq (by rw [Nat.zero_add]; exact ((show (by8 (List.replicate 32 0)).length = 32 from by rw [by8_length]; rfl)).symm)) (by8_one _)
  rw [st_whole (by rw [by8_length]; rfl)] at H22
  have H22 : Hp w [] [.blk p3 (by8 r) 25, .blk p7 (by8 g) 25, .blk p16 (by8 (climbV l g z m)) 25] w20 := H22
  refine GL.semU (j := 10) r21 [5, 11, 20] [(5, pt p3 0), (11, pt p16 0), (20, .int .i64 (((climbE l g z m) : Nat) : Int))] (by kernel_rfl) rfl rfl rfl ?_
  refine GL.run (j := 11) 1 [5, 11, 12] [(5, pt p3 0), (11, pt p16 0), (12, .int .i64 (((climbE l g z m) : Nat) : Int))] (by kernel_rfl) rfl ?_
  refine GL.k rfl hK12 (fun _ _ h => h) ?_
  refine G.seqK fun K23 hK24 => ?_
  refine G.region ?_
  refine GL.run (j := 3) 3 [5, 11, 23] [(5, pt p3 0), (11, pt p16 0), (23, .bool ((((climbE l g z m) : Nat) : Int) == 0))] (by kernel_rfl) rfl ?_
  cases hb25 : ((((climbE l g z m) : Nat) : Int) == 0)
  · skip
    have hb25f := ne_of_beq_false hb25
    refine GL.run (j := 8) 5 [10] [(10, .bool false)] (by kernel_rfl) rfl ?_
    refine GL.k rfl hK24 (fun _ _ h => h) ?_
    refine G.ret ?_
    intro F_ hF_ hM_
    refine hRet _ _ (bodyPost_1 rfl (RV.tmp rfl) ?_ F_ hF_ hM_)
    have e0 : checkB l r g z m = false := decide_eq_false (fun h => by omega)
    rw [e0]
    exact ⟨rfl, H22.sub (List.nil_sublist _)⟩
  · skip
    have hb25f := eq_of_beq hb25
    refine GL.sem (j := 4) (H22.ldA (o := 0) (ty := 25) (m := 32) (sub := by8 (climbV l g z m)) 2 rfl (by kernel_rfl) (sub_whole (by rw [by8_length, climbV_length hg])) (by rw [by8_length, climbV_length hg])) [5, 23, 24] [(5, pt p3 0), (23, .bool true), (24, .agg (by8 (climbV l g z m)).toArray)] (by kernel_rfl) (by kernel_rfl) rfl ?_
    refine GL.sem (j := 5) (H22.ldA (o := 0) (ty := 25) (m := 32) (sub := by8 r) 0 rfl (by kernel_rfl) (sub_whole (by rw [by8_length, hr])) (by rw [by8_length, hr])) [23, 24, 25] [(23, .bool true), (24, .agg (by8 (climbV l g z m)).toArray), (25, .agg (by8 r).toArray)] (by kernel_rfl) (by kernel_rfl) rfl ?_
    refine GL.sem (j := 6) (run_by8_eql (P := Try.prog) (t := 25) (n := 32) (x := (.tmp 24)) (y := (.tmp 25)) (by kernel_rfl) (climbV l g z m) r (by rw [climbV_length hg]) (by rw [hr]) _) [23, 26] [(23, .bool true), (26, .bool (decide ((climbV l g z m) = r)))] (by kernel_rfl) (by kernel_rfl) rfl ?_
    refine GL.run (j := 8) 2 [10] [(10, .bool (decide ((climbV l g z m) = r)))] (by kernel_rfl) rfl ?_
    refine GL.k rfl hK24 (fun _ _ h => h) ?_
    refine G.ret ?_
    intro F_ hF_ hM_
    refine hRet _ _ (bodyPost_1 rfl (RV.tmp rfl) ?_ F_ hF_ hM_)
    have e0 : checkB l r g z m = (decide ((climbV l g z m) = r)) := by unfold checkB; rw [Bool.eq_iff_iff]; simp only [decide_eq_true_eq]; exact ⟨fun h => h.2, fun h => ⟨by omega, h⟩⟩
    rw [e0]
    exact ⟨rfl, H22.sub (List.nil_sublist _)⟩
theorem RefClimb_calls : ∀ (N : Nat) (l : List (List UInt8)) (hN : l.length = N) (g : List UInt8) (hg : g.length = 32) (i n : Nat) (A : Option Addr) (c : Nat) (w : World) (hx : RdS w A (by8 (flat8 l))) (hok : ok32 l) (hc : N ≤ c) (hin : i < n) (hn : n ≤ 65536), Calls Try.prog 19 #[.agg (by8 g).toArray, .int .i64 (i : Int), .int .i64 (n : Int), .slice A N c] w fun e w' => e = .returned (.tuple #[.agg (by8 (climbR l g i n).1).toArray, .bool (climbR l g i n).2]) ∧ Hp w [] [] w' := by
  intro N
  induction N using Nat.strongRecOn with
  | _ N ih =>
    intro l hN g hg i n A c w hx hok hc hin hn
    refine calls_G (args := [.agg (by8 g).toArray, .int .i64 (i : Int), .int .i64 (n : Int), .slice A N c]) Try.func19 rfl Try.ntmps19 rfl ?_
    intro Q0 hRet hNor hPan
    have H := Hp.start w
    have H : Hp w [] [] w := H
    refine G.seqK fun K1 hK2 => ?_
    refine G.region ?_
    obtain ⟨p3, w4, r5, H6⟩ := H.box (P := Try.prog) 24 (by8 g) (.agg (by8 g).toArray) rfl
    have H6 : Hp w [] [.blk p3 (by8 g) 24] w4 := H6
    refine GL.sem (j := 1) (r5) [1, 2, 3, 4] [(1, .int .i64 (i : Int)), (2, .int .i64 (n : Int)), (3, .slice A N c), (4, pt p3 0)] (by kernel_rfl) (by kernel_rfl) rfl ?_
    obtain ⟨p7, w8, r9, H10⟩ := H6.alloc (P := Try.prog) 24 (by8 (List.replicate 32 0)) (by kernel_rfl)
    have H10 : Hp w [] [.blk p3 (by8 g) 24, .blk p7 (by8 (List.replicate 32 0)) 24] w8 := H10
    refine GL.sem (j := 2) (r9) [1, 2, 3, 4, 8] [(1, .int .i64 (i : Int)), (2, .int .i64 (n : Int)), (3, .slice A N c), (4, pt p3 0), (8, pt p7 0)] (by kernel_rfl) (by kernel_rfl) rfl ?_
    refine GL.run (j := 3) 1 [1, 2, 3, 4, 8] [(1, .int .i64 (i : Int)), (2, .int .i64 (n : Int)), (3, .slice A N c), (4, pt p3 0), (8, pt p7 0)] (by kernel_rfl) rfl ?_
    refine GL.k rfl hK2 (fun _ _ h => h) ?_
    refine G.seqK fun K11 hK12 => ?_
    refine G.seqK fun K13 hK14 => ?_
    refine G.region ?_
    refine GL.run (j := 2) 2 [1, 2, 3, 4, 8, 13] [(1, .int .i64 (i : Int)), (2, .int .i64 (n : Int)), (3, .slice A N c), (4, pt p3 0), (8, pt p7 0), (13, .bool ((n : Int) == 1))] (by kernel_rfl) rfl ?_
    refine GL.k rfl hK14 (fun _ _ h => h) ?_
    cases hb15 : ((n : Int) == 1)
    · skip
      have hb15f := ne_of_beq_false hb15
      refine G.no rfl ?_
      refine G.skipK hK12 (fun _ _ h => h) ?_
      refine G.seqK fun K16 hK17 => ?_
      refine G.seqK fun K18 hK19 => ?_
      refine G.region ?_
      refine GL.run (j := 3) 3 [1, 2, 3, 4, 8, 20] [(1, .int .i64 (i : Int)), (2, .int .i64 (n : Int)), (3, .slice A N c), (4, pt p3 0), (8, pt p7 0), (20, .bool ((N : Int) == 0))] (by kernel_rfl) rfl ?_
      refine GL.k rfl hK19 (fun _ _ h => h) ?_
      cases hb20 : ((N : Int) == 0)
      · skip
        have hb20f := ne_of_beq_false hb20
        refine G.no rfl ?_
        refine G.skipK hK17 (fun _ _ h => h) ?_
        refine G.seqK fun K21 hK22 => ?_
        refine G.region ?_
        refine GL.run (j := 1) 1 [1, 2, 3, 4, 8, 22] [(1, .int .i64 (i : Int)), (2, .int .i64 (n : Int)), (3, .slice A N c), (4, pt p3 0), (8, pt p7 0), (22, .slice A N c)] (by kernel_rfl) rfl ?_
        refine GL.sem (j := 2) (run_idxRdN (P := Try.prog) (k := .i64) (t := 33) (sz := 32) (A := A) (len := N) (cap := c) (j := 0) (by kernel_rfl) rfl (hx.hp H10) (by rw [by8_length, flat8_length hok, hN]) (by decide) (by omega)) [1, 2, 3, 4, 8, 23] [(1, .int .i64 (i : Int)), (2, .int .i64 (n : Int)), (3, .slice A N c), (4, pt p3 0), (8, pt p7 0), (23, .pointer (Option.map (fun x => Addr.add x (0 * 32)) A))] (by kernel_rfl) (by kernel_rfl) rfl ?_
        refine GL.sem (j := 3) (run_ldRdA (P := Try.prog) (ty := 24) (m := 32) (o := (0 * 32)) (A := A) (sub := by8 (l.getD 0 [])) (by kernel_rfl) (hx.hp H10) (flat8_sub hok (by omega)) (by rw [by8_length, ok32_at hok (by omega)]) (by decide)) [1, 2, 3, 4, 8, 24] [(1, .int .i64 (i : Int)), (2, .int .i64 (n : Int)), (3, .slice A N c), (4, pt p3 0), (8, pt p7 0), (24, .agg (by8 (l.getD 0 [])).toArray)] (by kernel_rfl) (by kernel_rfl) rfl ?_
        obtain ⟨p23, w24, r25, H26⟩ := H10.alloc (P := Try.prog) 24 (by8 (List.replicate 32 0)) (by kernel_rfl)
        have H26 : Hp w [] [.blk p3 (by8 g) 24, .blk p7 (by8 (List.replicate 32 0)) 24, .blk p23 (by8 (List.replicate 32 0)) 24] w24 := H26
        refine GL.sem (j := 4) (r25) [1, 2, 3, 4, 8, 10, 24] [(1, .int .i64 (i : Int)), (2, .int .i64 (n : Int)), (3, .slice A N c), (4, pt p3 0), (8, pt p7 0), (10, pt p23 0), (24, .agg (by8 (l.getD 0 [])).toArray)] (by kernel_rfl) (by kernel_rfl) rfl ?_
        obtain ⟨w27, r28, H29⟩ := H26.stA (P := Try.prog) (o := 0) (vs := by8 (l.getD 0 [])) (ty := 24) (m := 32) 2 rfl (by kernel_rfl) (by rw [by8_length, ok32_at hok (by omega)]) (Nat.le_of_eq (by rw [Nat.zero_add]; exact ((show (by8 (List.replicate 32 0)).length = 32 from by rw [by8_length]; rfl)).symm)) (by8_one _)
        rw [st_whole (by rw [by8_length]; rfl)] at H29
        have H29 : Hp w [] [.blk p3 (by8 g) 24, .blk p7 (by8 (List.replicate 32 0)) 24, .blk p23 (by8 (l.getD 0 [])) 24] w27 := H29
        refine GL.semU (j := 5) r28 [1, 2, 3, 4, 8, 10] [(1, .int .i64 (i : Int)), (2, .int .i64 (n : Int)), (3, .slice A N c), (4, pt p3 0), (8, pt p7 0), (10, pt p23 0)] (by kernel_rfl) rfl rfl rfl ?_
        refine GL.k rfl hK22 (fun _ _ h => h) ?_
        refine G.seqK fun K30 hK31 => ?_
        refine G.region ?_
        refine GL.run (j := 4) 4 [1, 2, 3, 4, 8, 10, 28] [(1, .int .i64 (i : Int)), (2, .int .i64 (n : Int)), (3, .slice A N c), (4, pt p3 0), (8, pt p7 0), (10, pt p23 0), (28, .bool ((Int.tmod (n : Int) 2) == 1))] (by kernel_rfl) rfl ?_
        have e32 : (Int.tmod (n : Int) 2) = (((n % 2) : Nat) : Int) := n_rem _ 2
        refine GL.eq (M' := [(1, .int .i64 (i : Int)), (2, .int .i64 (n : Int)), (3, .slice A N c), (4, pt p3 0), (8, pt p7 0), (10, pt p23 0), (28, .bool ((((n % 2) : Nat) : Int) == 1))]) (by rw [e32]) ?_
        clear e32
        cases hb33 : ((((n % 2) : Nat) : Int) == 1)
        · skip
          have hb33f := ne_of_beq_false hb33
          refine GL.run (j := 10) 6 [1, 2, 3, 4, 8, 10, 11] [(1, .int .i64 (i : Int)), (2, .int .i64 (n : Int)), (3, .slice A N c), (4, pt p3 0), (8, pt p7 0), (10, pt p23 0), (11, .bool false)] (by kernel_rfl) rfl ?_
          refine GL.k rfl hK31 (fun _ _ h => h) ?_
          refine G.seqJ (X := Unit) (fun _v => [(1, .int .i64 (i : Int)), (2, .int .i64 (n : Int)), (3, .slice A N c), (4, pt p3 0), (8, pt p7 0), (10, pt p23 0)]) (fun _v w_ => (aloneB i n = decide (l.getD 0 [] = g)) ∧ Hp w [] [.blk p3 (by8 g) 24, .blk p7 (by8 (List.replicate 32 0)) 24, .blk p23 (by8 (l.getD 0 [])) 24] w_) (fun J34 K35 hK36 => ?_) ?_
          · skip
            refine G.seqK fun K37 hK38 => ?_
            refine G.region ?_
            refine GL.run (j := 10) 10 [1, 2, 3, 4, 8, 10, 40, 43] [(1, .int .i64 (i : Int)), (2, .int .i64 (n : Int)), (3, .slice A N c), (4, pt p3 0), (8, pt p7 0), (10, pt p23 0), (40, .bool false), (43, .bool true)] (by kernel_rfl) rfl ?_
            refine GL.sem (j := 11) (H29.ldA (o := 0) (ty := 24) (m := 32) (sub := by8 (l.getD 0 [])) 2 rfl (by kernel_rfl) (sub_whole (by rw [by8_length, ok32_at hok (by omega)])) (by rw [by8_length, ok32_at hok (by omega)])) [1, 2, 3, 4, 8, 10, 40, 43, 44] [(1, .int .i64 (i : Int)), (2, .int .i64 (n : Int)), (3, .slice A N c), (4, pt p3 0), (8, pt p7 0), (10, pt p23 0), (40, .bool false), (43, .bool true), (44, .agg (by8 (l.getD 0 [])).toArray)] (by kernel_rfl) (by kernel_rfl) rfl ?_
            refine GL.sem (j := 12) (H29.ldA (o := 0) (ty := 24) (m := 32) (sub := by8 g) 0 rfl (by kernel_rfl) (sub_whole (by rw [by8_length, hg])) (by rw [by8_length, hg])) [1, 2, 3, 4, 8, 10, 40, 43, 44, 45] [(1, .int .i64 (i : Int)), (2, .int .i64 (n : Int)), (3, .slice A N c), (4, pt p3 0), (8, pt p7 0), (10, pt p23 0), (40, .bool false), (43, .bool true), (44, .agg (by8 (l.getD 0 [])).toArray), (45, .agg (by8 g).toArray)] (by kernel_rfl) (by kernel_rfl) rfl ?_
            refine GL.sem (j := 13) (run_by8_eql (P := Try.prog) (t := 24) (n := 32) (x := (.tmp 44)) (y := (.tmp 45)) (by kernel_rfl) (l.getD 0 []) g (by rw [ok32_at hok (by omega)]) (by rw [hg]) _) [1, 2, 3, 4, 8, 10, 40, 43, 46] [(1, .int .i64 (i : Int)), (2, .int .i64 (n : Int)), (3, .slice A N c), (4, pt p3 0), (8, pt p7 0), (10, pt p23 0), (40, .bool false), (43, .bool true), (46, .bool (decide ((l.getD 0 []) = g)))] (by kernel_rfl) (by kernel_rfl) rfl ?_
            refine GL.run (j := 15) 2 [1, 2, 3, 4, 8, 10, 48] [(1, .int .i64 (i : Int)), (2, .int .i64 (n : Int)), (3, .slice A N c), (4, pt p3 0), (8, pt p7 0), (10, pt p23 0), (48, .bool (decide ((l.getD 0 []) = g)))] (by kernel_rfl) rfl ?_
            refine GL.k rfl hK38 (fun _ _ h => h) ?_
            cases hb39 : (decide ((l.getD 0 []) = g))
            · skip
              have hb39f := of_decide_eq_false hb39
              refine G.no rfl ?_
              refine G.skipK hK36 (fun _ _ h => h) ?_
              have ea : aloneB i n = false := by unfold aloneB; exact decide_eq_false (by omega)
              have ex : decide (l.getD 0 [] = g) = false := hb39
              refine G.fit [1, 2, 3, 4, 8, 10] (M' := [(1, .int .i64 (i : Int)), (2, .int .i64 (n : Int)), (3, .slice A N c), (4, pt p3 0), (8, pt p7 0), (10, pt p23 0)]) (by kernel_rfl) ?_
              exact J34 () _ ⟨by rw [ea, ex], H29⟩
            · skip
              have hb39f := of_decide_eq_true hb39
              refine G.yes rfl ?_
              refine G.seqK fun K40 hK41 => ?_
              refine G.region ?_
              refine GL.run (j := 1) 1 [8, 49] [(8, pt p7 0), (49, .agg (by8 (List.replicate 32 0)).toArray)] (by kernel_rfl) rfl ?_
              obtain ⟨w42, r43, H44⟩ := H29.stA (P := Try.prog) (o := 0) (vs := by8 (List.replicate 32 0)) (ty := 24) (m := 32) 1 rfl (by kernel_rfl) (by rw [by8_length, List.length_replicate]) (Nat.le_of_eq (by rw [Nat.zero_add]; exact ((show (by8 (List.replicate 32 0)).length = 32 from by rw [by8_length]; rfl)).symm)) (by8_one _)
              rw [st_whole (by rw [by8_length]; rfl)] at H44
              have H44 : Hp w [] [.blk p3 (by8 g) 24, .blk p7 (by8 (List.replicate 32 0)) 24, .blk p23 (by8 (l.getD 0 [])) 24] w42 := H44
              refine GL.semU (j := 2) r43 [8] [(8, pt p7 0)] (by kernel_rfl) rfl rfl rfl ?_
              refine GL.run (j := 3) 1 [8, 9] [(8, pt p7 0), (9, .bool false)] (by kernel_rfl) rfl ?_
              refine GL.k rfl hK41 (fun _ _ h => h) ?_
              refine G.ret ?_
              intro F_ hF_ hM_
              refine hRet _ _ (bodyPost_2 rfl (RV.cell rfl (H44.ldA (o := 0) (ty := 24) (m := 32) (sub := by8 (List.replicate 32 0)) 1 rfl (by kernel_rfl) (sub_whole (by rw [by8_length, List.length_replicate])) (by rw [by8_length, List.length_replicate]))) (RV.tmp rfl) ?_ F_ hF_ hM_)
              have ea : aloneB i n = false := by unfold aloneB; exact decide_eq_false (by omega)
              have ex : decide (l.getD 0 [] = g) = true := hb39
              have hcv : climbR l g i n = ((List.replicate 32 0), false) := climbR_stop (k := 0) (by omega) (by omega) (by rw [ea, ex]; decide)
              rw [hcv]
              exact ⟨rfl, H44.sub (List.nil_sublist _)⟩
          · skip
            rintro _v w45 ⟨hi46, H47⟩
            refine G.eq (M' := [(1, .int .i64 (i : Int)), (2, .int .i64 (n : Int)), (3, .slice A N c), (4, pt p3 0), (8, pt p7 0), (10, pt p23 0)]) rfl ?_
            have H47 : Hp w [] [.blk p3 (by8 g) 24, .blk p7 (by8 (List.replicate 32 0)) 24, .blk p23 (by8 (l.getD 0 [])) 24] w45 := H47
            have heqk := hi46
            refine G.seqK fun K48 hK49 => ?_
            refine G.seqK fun K50 hK51 => ?_
            refine G.region ?_
            refine GL.run (j := 3) 3 [1, 2, 3, 4, 8, 10, 52] [(1, .int .i64 (i : Int)), (2, .int .i64 (n : Int)), (3, .slice A N c), (4, pt p3 0), (8, pt p7 0), (10, pt p23 0), (52, .bool ((Int.tmod (i : Int) 2) == 1))] (by kernel_rfl) rfl ?_
            have e52 : (Int.tmod (i : Int) 2) = (((i % 2) : Nat) : Int) := n_rem _ 2
            refine GL.eq (M' := [(1, .int .i64 (i : Int)), (2, .int .i64 (n : Int)), (3, .slice A N c), (4, pt p3 0), (8, pt p7 0), (10, pt p23 0), (52, .bool ((((i % 2) : Nat) : Int) == 1))]) (by rw [e52]) ?_
            clear e52
            refine GL.k rfl hK51 (fun _ _ h => h) ?_
            cases hb53 : ((((i % 2) : Nat) : Int) == 1)
            · skip
              have hb53f := ne_of_beq_false hb53
              refine G.no rfl ?_
              refine G.skipK hK49 (fun _ _ h => h) ?_
              refine G.seqK fun K54 hK55 => ?_
              refine G.heldP (Hp w [] [.blk p3 (by8 g) 24, .blk p23 (by8 (l.getD 0 [])) 24]) (by kernel_rfl) (by kernel_rfl) (fun c_ a_ d_ v_ w_ h_ => hPan c_ a_ d_ v_ w_ h_) ?_
              have H56 := H47.drew
              generalize ({ w45 with drawn := w45.drawn + 1 } : World) = w57 at H56 ⊢
              have hS58 : Hp w [] [.blk p3 (by8 g) 24, .blk p23 (by8 (l.getD 0 [])) 24] w57 := H56.sub (List.Sublist.cons_cons _ (List.Sublist.cons _ (List.Sublist.cons_cons _ (List.Sublist.slnil))))
              refine GP.sem 0 (fun w_ H_ => H_.ldA (o := 0) (ty := 24) (m := 32) (sub := by8 g) 0 rfl (by kernel_rfl) (sub_whole (by rw [by8_length, hg])) (by rw [by8_length, hg])) [1, 2, 3, 8, 10, 66] [(1, .int .i64 (i : Int)), (2, .int .i64 (n : Int)), (3, .slice A N c), (8, pt p7 0), (10, pt p23 0), (66, .agg (by8 g).toArray)] (by kernel_rfl) (by kernel_rfl) (by kernel_rfl) hS58 ?_
              refine GP.sem 1 (fun w_ H_ => H_.ldA (o := 0) (ty := 24) (m := 32) (sub := by8 (l.getD 0 [])) 1 rfl (by kernel_rfl) (sub_whole (by rw [by8_length, ok32_at hok (by omega)])) (by rw [by8_length, ok32_at hok (by omega)])) [1, 2, 3, 8, 66, 67] [(1, .int .i64 (i : Int)), (2, .int .i64 (n : Int)), (3, .slice A N c), (8, pt p7 0), (66, .agg (by8 g).toArray), (67, .agg (by8 (l.getD 0 [])).toArray)] (by kernel_rfl) (by kernel_rfl) (by kernel_rfl) hS58 ?_
              refine GP.run [3, 4, 5, 6, 7, 8] [8, 66, 67, 70, 73, 74] [(8, pt p7 0), (66, .agg (by8 g).toArray), (67, .agg (by8 (l.getD 0 [])).toArray), (70, .int .i64 (IntKind.i64.wrap (Int.tdiv (i : Int) 2))), (73, .int .i64 (IntKind.i64.wrap (Int.tdiv (IntKind.i64.wrap ((n : Int) + 1)) 2))), (74, .slice A N c)] [0, 1, 3, 4, 5, 6, 7, 8] (by kernel_rfl) rfl hS58 ?_
              have e59 : (IntKind.i64.wrap (Int.tdiv (i : Int) 2)) = (((i / 2) : Nat) : Int) := i_quo (a := i) 2 (by omega)
              have e60 : (IntKind.i64.wrap ((n : Int) + 1)) = ((n + 1 : Nat) : Int) := by rw [in_i64 (by omega)]; omega
              have e61 : (IntKind.i64.wrap (Int.tdiv ((n + 1 : Nat) : Int) 2)) = ((((n + 1) / 2) : Nat) : Int) := i_quo (a := (n + 1)) 2 (by omega)
              refine GP.eq (M' := [(8, pt p7 0), (66, .agg (by8 g).toArray), (67, .agg (by8 (l.getD 0 [])).toArray), (70, .int .i64 (((i / 2) : Nat) : Int)), (73, .int .i64 ((((n + 1) / 2) : Nat) : Int)), (74, .slice A N c)]) (by rw [e59, e60, e61]) ?_
              clear e59 e60 e61
              refine GP.sem 9 (fun w_ H_ => run_sliceFrom (P := Try.prog) (t := 33) (len := N) (cap := c) (A := A) (sz := 32) (l := 1) (k1 := .i64) (by kernel_rfl) (by omega) (by omega) _) [8, 66, 67, 70, 73, 75] [(8, pt p7 0), (66, .agg (by8 g).toArray), (67, .agg (by8 (l.getD 0 [])).toArray), (70, .int .i64 (((i / 2) : Nat) : Int)), (73, .int .i64 ((((n + 1) / 2) : Nat) : Int)), (75, .slice (if c = 1 then A else Option.map (fun x => Addr.add x (1 * 32)) A) (N - 1) (c - 1))] (by kernel_rfl) (by kernel_rfl) (by kernel_rfl) hS58 ?_
              refine GP.call 2 (RefBoth_calls g (l.getD 0 []) (by rw [hg]) (by rw [ok32_at hok (by omega)]) w57) (by kernel_rfl) (by kernel_rfl) (fun e_ w62 hR => ?_)
              obtain ⟨rfl, H64⟩ := hR
              have H63 : Hp w [] [.blk p3 (by8 g) 24, .blk p7 (by8 (List.replicate 32 0)) 24, .blk p23 (by8 (l.getD 0 [])) 24] w62 := H56.callNil H64
              have hS65 : Hp w [] [.blk p3 (by8 g) 24, .blk p23 (by8 (l.getD 0 [])) 24] w62 := H63.sub (List.Sublist.cons_cons _ (List.Sublist.cons _ (List.Sublist.cons_cons _ (List.Sublist.slnil))))
              refine ⟨_, rfl, hS65, [8, 68, 70, 73, 75], [(8, pt p7 0), (68, .agg (by8 (bothH g (l.getD 0 []))).toArray), (70, .int .i64 (((i / 2) : Nat) : Int)), (73, .int .i64 ((((n + 1) / 2) : Nat) : Int)), (75, .slice (if c = 1 then A else Option.map (fun x => Addr.add x (1 * 32)) A) (N - 1) (c - 1))], by kernel_rfl, ?_⟩
              refine GP.call 10 (ih (N - 1) (by omega) (l.drop 1) (by rw [List.length_drop]; omega) (bothH g (l.getD 0 [])) (by rw [bothH_length]) (i / 2) ((n + 1) / 2) (if c = 1 then A else Option.map (fun x => Addr.add x (1 * 32)) A) (c - 1) w62 (RdS.rest32 (hx.hp H63) hok (by omega)) (fun x hx => hok x (List.mem_of_mem_drop hx)) (by omega) (by omega) (by omega)) (by kernel_rfl) (by kernel_rfl) (fun e_ w66 hR => ?_)
              obtain ⟨rfl, H68⟩ := hR
              have H67 : Hp w [] [.blk p3 (by8 g) 24, .blk p7 (by8 (List.replicate 32 0)) 24, .blk p23 (by8 (l.getD 0 [])) 24] w66 := H63.callNil H68
              have hS69 : Hp w [] [.blk p3 (by8 g) 24, .blk p23 (by8 (l.getD 0 [])) 24] w66 := H67.sub (List.Sublist.cons_cons _ (List.Sublist.cons _ (List.Sublist.cons_cons _ (List.Sublist.slnil))))
              refine ⟨_, rfl, hS69, [8, 76], [(8, pt p7 0), (76, .tuple #[.agg (by8 (climbR (l.drop 1) (bothH g (l.getD 0 [])) (i / 2) ((n + 1) / 2)).1).toArray, .bool ((climbR (l.drop 1) (bothH g (l.getD 0 [])) (i / 2) ((n + 1) / 2)).2)])], by kernel_rfl, ?_⟩
              refine GP.run [11, 12] [8, 77, 78] [(8, pt p7 0), (77, .agg (by8 (climbR (l.drop 1) (bothH g (l.getD 0 [])) (i / 2) ((n + 1) / 2)).1).toArray), (78, .bool ((climbR (l.drop 1) (bothH g (l.getD 0 [])) (i / 2) ((n + 1) / 2)).2))] [0, 1, 3, 4, 5, 6, 7, 8, 9, 2, 10, 11, 12] (by kernel_rfl) rfl hS69 ?_
              obtain ⟨w70, r71, H72⟩ := H67.stA (P := Try.prog) (o := 0) (vs := by8 (climbR (l.drop 1) (bothH g (l.getD 0 [])) (i / 2) ((n + 1) / 2)).1) (ty := 24) (m := 32) 1 rfl (by kernel_rfl) (by rw [by8_length, climbR_32 _ _ _ _ (bothH_length _ _)]) (Nat.le_of_eq (by rw [Nat.zero_add]; exact ((show (by8 (List.replicate 32 0)).length = 32 from by rw [by8_length]; rfl)).symm)) (by8_one _)
              rw [st_whole (by rw [by8_length]; rfl)] at H72
              have H72 : Hp w [] [.blk p3 (by8 g) 24, .blk p7 (by8 (climbR (l.drop 1) (bothH g (l.getD 0 [])) (i / 2) ((n + 1) / 2)).1) 24, .blk p23 (by8 (l.getD 0 [])) 24] w70 := H72
              have hS73 : Hp w [] [.blk p3 (by8 g) 24, .blk p23 (by8 (l.getD 0 [])) 24] w70 := H72.sub (List.Sublist.cons_cons _ (List.Sublist.cons _ (List.Sublist.cons_cons _ (List.Sublist.slnil))))
              refine GP.semU 13 r71 [8, 78] [(8, pt p7 0), (78, .bool ((climbR (l.drop 1) (bothH g (l.getD 0 [])) (i / 2) ((n + 1) / 2)).2))] (by kernel_rfl) rfl rfl (by kernel_rfl) hS73 ?_
              refine GP.run [14] [8, 9] [(8, pt p7 0), (9, .bool ((climbR (l.drop 1) (bothH g (l.getD 0 [])) (i / 2) ((n + 1) / 2)).2))] [0, 1, 3, 4, 5, 6, 7, 8, 9, 2, 10, 11, 12, 13, 14] (by kernel_rfl) rfl hS73 ?_
              refine GP.k (by kernel_rfl) hK55 (fun _ _ h => h) ?_
              refine G.ret ?_
              intro F_ hF_ hM_
              refine hRet _ _ (bodyPost_2 rfl (RV.cell rfl (H72.ldA (o := 0) (ty := 24) (m := 32) (sub := by8 (climbR (l.drop 1) (bothH g (l.getD 0 [])) (i / 2) ((n + 1) / 2)).1) 1 rfl (by kernel_rfl) (sub_whole (by rw [by8_length, climbR_32 _ _ _ _ (bothH_length _ _)])) (by rw [by8_length, climbR_32 _ _ _ _ (bothH_length _ _)]))) (RV.tmp rfl) ?_ F_ hF_ hM_)
              have hcv : climbR l g i n = climbR (l.drop 1) (bothH g (l.getD 0 [])) (i / 2) ((n + 1) / 2) := by rw [show climbR l g i n = climbR (l.drop 0) g i n from rfl, climbR_on (k := 0) (by omega) (by omega) heqk]; unfold turnH; rw [if_neg (by omega)]
              rw [hcv]
              exact ⟨rfl, H72.sub (List.nil_sublist _)⟩
            · skip
              have hb53f := eq_of_beq hb53
              refine G.yes rfl ?_
              refine G.seqK fun K74 hK75 => ?_
              refine G.heldP (Hp w [] [.blk p3 (by8 g) 24, .blk p23 (by8 (l.getD 0 [])) 24]) (by kernel_rfl) (by kernel_rfl) (fun c_ a_ d_ v_ w_ h_ => hPan c_ a_ d_ v_ w_ h_) ?_
              have H76 := H47.drew
              generalize ({ w45 with drawn := w45.drawn + 1 } : World) = w77 at H76 ⊢
              have hS78 : Hp w [] [.blk p3 (by8 g) 24, .blk p23 (by8 (l.getD 0 [])) 24] w77 := H76.sub (List.Sublist.cons_cons _ (List.Sublist.cons _ (List.Sublist.cons_cons _ (List.Sublist.slnil))))
              refine GP.sem 0 (fun w_ H_ => H_.ldA (o := 0) (ty := 24) (m := 32) (sub := by8 (l.getD 0 [])) 1 rfl (by kernel_rfl) (sub_whole (by rw [by8_length, ok32_at hok (by omega)])) (by rw [by8_length, ok32_at hok (by omega)])) [1, 2, 3, 4, 8, 53] [(1, .int .i64 (i : Int)), (2, .int .i64 (n : Int)), (3, .slice A N c), (4, pt p3 0), (8, pt p7 0), (53, .agg (by8 (l.getD 0 [])).toArray)] (by kernel_rfl) (by kernel_rfl) (by kernel_rfl) hS78 ?_
              refine GP.sem 1 (fun w_ H_ => H_.ldA (o := 0) (ty := 24) (m := 32) (sub := by8 g) 0 rfl (by kernel_rfl) (sub_whole (by rw [by8_length, hg])) (by rw [by8_length, hg])) [1, 2, 3, 8, 53, 54] [(1, .int .i64 (i : Int)), (2, .int .i64 (n : Int)), (3, .slice A N c), (8, pt p7 0), (53, .agg (by8 (l.getD 0 [])).toArray), (54, .agg (by8 g).toArray)] (by kernel_rfl) (by kernel_rfl) (by kernel_rfl) hS78 ?_
              refine GP.run [3, 4, 5, 6, 7, 8] [8, 53, 54, 57, 60, 61] [(8, pt p7 0), (53, .agg (by8 (l.getD 0 [])).toArray), (54, .agg (by8 g).toArray), (57, .int .i64 (IntKind.i64.wrap (Int.tdiv (i : Int) 2))), (60, .int .i64 (IntKind.i64.wrap (Int.tdiv (IntKind.i64.wrap ((n : Int) + 1)) 2))), (61, .slice A N c)] [0, 1, 3, 4, 5, 6, 7, 8] (by kernel_rfl) rfl hS78 ?_
              have e79 : (IntKind.i64.wrap (Int.tdiv (i : Int) 2)) = (((i / 2) : Nat) : Int) := i_quo (a := i) 2 (by omega)
              have e80 : (IntKind.i64.wrap ((n : Int) + 1)) = ((n + 1 : Nat) : Int) := by rw [in_i64 (by omega)]; omega
              have e81 : (IntKind.i64.wrap (Int.tdiv ((n + 1 : Nat) : Int) 2)) = ((((n + 1) / 2) : Nat) : Int) := i_quo (a := (n + 1)) 2 (by omega)
              refine GP.eq (M' := [(8, pt p7 0), (53, .agg (by8 (l.getD 0 [])).toArray), (54, .agg (by8 g).toArray), (57, .int .i64 (((i / 2) : Nat) : Int)), (60, .int .i64 ((((n + 1) / 2) : Nat) : Int)), (61, .slice A N c)]) (by rw [e79, e80, e81]) ?_
              clear e79 e80 e81
              refine GP.sem 9 (fun w_ H_ => run_sliceFrom (P := Try.prog) (t := 33) (len := N) (cap := c) (A := A) (sz := 32) (l := 1) (k1 := .i64) (by kernel_rfl) (by omega) (by omega) _) [8, 53, 54, 57, 60, 62] [(8, pt p7 0), (53, .agg (by8 (l.getD 0 [])).toArray), (54, .agg (by8 g).toArray), (57, .int .i64 (((i / 2) : Nat) : Int)), (60, .int .i64 ((((n + 1) / 2) : Nat) : Int)), (62, .slice (if c = 1 then A else Option.map (fun x => Addr.add x (1 * 32)) A) (N - 1) (c - 1))] (by kernel_rfl) (by kernel_rfl) (by kernel_rfl) hS78 ?_
              refine GP.call 2 (RefBoth_calls (l.getD 0 []) g (by rw [ok32_at hok (by omega)]) (by rw [hg]) w77) (by kernel_rfl) (by kernel_rfl) (fun e_ w82 hR => ?_)
              obtain ⟨rfl, H84⟩ := hR
              have H83 : Hp w [] [.blk p3 (by8 g) 24, .blk p7 (by8 (List.replicate 32 0)) 24, .blk p23 (by8 (l.getD 0 [])) 24] w82 := H76.callNil H84
              have hS85 : Hp w [] [.blk p3 (by8 g) 24, .blk p23 (by8 (l.getD 0 [])) 24] w82 := H83.sub (List.Sublist.cons_cons _ (List.Sublist.cons _ (List.Sublist.cons_cons _ (List.Sublist.slnil))))
              refine ⟨_, rfl, hS85, [8, 55, 57, 60, 62], [(8, pt p7 0), (55, .agg (by8 (bothH (l.getD 0 []) g)).toArray), (57, .int .i64 (((i / 2) : Nat) : Int)), (60, .int .i64 ((((n + 1) / 2) : Nat) : Int)), (62, .slice (if c = 1 then A else Option.map (fun x => Addr.add x (1 * 32)) A) (N - 1) (c - 1))], by kernel_rfl, ?_⟩
              refine GP.call 10 (ih (N - 1) (by omega) (l.drop 1) (by rw [List.length_drop]; omega) (bothH (l.getD 0 []) g) (by rw [bothH_length]) (i / 2) ((n + 1) / 2) (if c = 1 then A else Option.map (fun x => Addr.add x (1 * 32)) A) (c - 1) w82 (RdS.rest32 (hx.hp H83) hok (by omega)) (fun x hx => hok x (List.mem_of_mem_drop hx)) (by omega) (by omega) (by omega)) (by kernel_rfl) (by kernel_rfl) (fun e_ w86 hR => ?_)
              obtain ⟨rfl, H88⟩ := hR
              have H87 : Hp w [] [.blk p3 (by8 g) 24, .blk p7 (by8 (List.replicate 32 0)) 24, .blk p23 (by8 (l.getD 0 [])) 24] w86 := H83.callNil H88
              have hS89 : Hp w [] [.blk p3 (by8 g) 24, .blk p23 (by8 (l.getD 0 [])) 24] w86 := H87.sub (List.Sublist.cons_cons _ (List.Sublist.cons _ (List.Sublist.cons_cons _ (List.Sublist.slnil))))
              refine ⟨_, rfl, hS89, [8, 63], [(8, pt p7 0), (63, .tuple #[.agg (by8 (climbR (l.drop 1) (bothH (l.getD 0 []) g) (i / 2) ((n + 1) / 2)).1).toArray, .bool ((climbR (l.drop 1) (bothH (l.getD 0 []) g) (i / 2) ((n + 1) / 2)).2)])], by kernel_rfl, ?_⟩
              refine GP.run [11, 12] [8, 64, 65] [(8, pt p7 0), (64, .agg (by8 (climbR (l.drop 1) (bothH (l.getD 0 []) g) (i / 2) ((n + 1) / 2)).1).toArray), (65, .bool ((climbR (l.drop 1) (bothH (l.getD 0 []) g) (i / 2) ((n + 1) / 2)).2))] [0, 1, 3, 4, 5, 6, 7, 8, 9, 2, 10, 11, 12] (by kernel_rfl) rfl hS89 ?_
              obtain ⟨w90, r91, H92⟩ := H87.stA (P := Try.prog) (o := 0) (vs := by8 (climbR (l.drop 1) (bothH (l.getD 0 []) g) (i / 2) ((n + 1) / 2)).1) (ty := 24) (m := 32) 1 rfl (by kernel_rfl) (by rw [by8_length, climbR_32 _ _ _ _ (bothH_length _ _)]) (Nat.le_of_eq (by rw [Nat.zero_add]; exact ((show (by8 (List.replicate 32 0)).length = 32 from by rw [by8_length]; rfl)).symm)) (by8_one _)
              rw [st_whole (by rw [by8_length]; rfl)] at H92
              have H92 : Hp w [] [.blk p3 (by8 g) 24, .blk p7 (by8 (climbR (l.drop 1) (bothH (l.getD 0 []) g) (i / 2) ((n + 1) / 2)).1) 24, .blk p23 (by8 (l.getD 0 [])) 24] w90 := H92
              have hS93 : Hp w [] [.blk p3 (by8 g) 24, .blk p23 (by8 (l.getD 0 [])) 24] w90 := H92.sub (List.Sublist.cons_cons _ (List.Sublist.cons _ (List.Sublist.cons_cons _ (List.Sublist.slnil))))
              refine GP.semU 13 r91 [8, 65] [(8, pt p7 0), (65, .bool ((climbR (l.drop 1) (bothH (l.getD 0 []) g) (i / 2) ((n + 1) / 2)).2))] (by kernel_rfl) rfl rfl (by kernel_rfl) hS93 ?_
              refine GP.run [14] [8, 9] [(8, pt p7 0), (9, .bool ((climbR (l.drop 1) (bothH (l.getD 0 []) g) (i / 2) ((n + 1) / 2)).2))] [0, 1, 3, 4, 5, 6, 7, 8, 9, 2, 10, 11, 12, 13, 14] (by kernel_rfl) rfl hS93 ?_
              refine GP.k (by kernel_rfl) hK75 (fun _ _ h => h) ?_
              refine G.ret ?_
              intro F_ hF_ hM_
              refine hRet _ _ (bodyPost_2 rfl (RV.cell rfl (H92.ldA (o := 0) (ty := 24) (m := 32) (sub := by8 (climbR (l.drop 1) (bothH (l.getD 0 []) g) (i / 2) ((n + 1) / 2)).1) 1 rfl (by kernel_rfl) (sub_whole (by rw [by8_length, climbR_32 _ _ _ _ (bothH_length _ _)])) (by rw [by8_length, climbR_32 _ _ _ _ (bothH_length _ _)]))) (RV.tmp rfl) ?_ F_ hF_ hM_)
              have hcv : climbR l g i n = climbR (l.drop 1) (bothH (l.getD 0 []) g) (i / 2) ((n + 1) / 2) := by rw [show climbR l g i n = climbR (l.drop 0) g i n from rfl, climbR_on (k := 0) (by omega) (by omega) heqk]; unfold turnH; rw [if_pos (by omega)]
              rw [hcv]
              exact ⟨rfl, H92.sub (List.nil_sublist _)⟩
        · skip
          have hb33f := eq_of_beq hb33
          refine GL.run (j := 10) 6 [1, 2, 3, 4, 8, 10, 11] [(1, .int .i64 (i : Int)), (2, .int .i64 (n : Int)), (3, .slice A N c), (4, pt p3 0), (8, pt p7 0), (10, pt p23 0), (11, .bool ((i : Int) == (IntKind.i64.wrap ((n : Int) - 1))))] (by kernel_rfl) rfl ?_
          have e94 : (IntKind.i64.wrap ((n : Int) - 1)) = (((n - 1) : Nat) : Int) := by rw [in_i64 (by omega)]; omega
          refine GL.eq (M' := [(1, .int .i64 (i : Int)), (2, .int .i64 (n : Int)), (3, .slice A N c), (4, pt p3 0), (8, pt p7 0), (10, pt p23 0), (11, .bool ((i : Int) == (((n - 1) : Nat) : Int)))]) (by rw [e94]) ?_
          clear e94
          refine GL.k rfl hK31 (fun _ _ h => h) ?_
          refine G.seqJ (X := Unit) (fun _v => [(1, .int .i64 (i : Int)), (2, .int .i64 (n : Int)), (3, .slice A N c), (4, pt p3 0), (8, pt p7 0), (10, pt p23 0)]) (fun _v w_ => (aloneB i n = decide (l.getD 0 [] = g)) ∧ Hp w [] [.blk p3 (by8 g) 24, .blk p7 (by8 (List.replicate 32 0)) 24, .blk p23 (by8 (l.getD 0 [])) 24] w_) (fun J95 K96 hK97 => ?_) ?_
          · skip
            refine G.seqK fun K98 hK99 => ?_
            refine G.region ?_
            refine GL.run (j := 2) 2 [1, 2, 3, 4, 8, 10, 11, 35] [(1, .int .i64 (i : Int)), (2, .int .i64 (n : Int)), (3, .slice A N c), (4, pt p3 0), (8, pt p7 0), (10, pt p23 0), (11, .bool ((i : Int) == (((n - 1) : Nat) : Int))), (35, .bool ((i : Int) == (((n - 1) : Nat) : Int)))] (by kernel_rfl) rfl ?_
            cases hb100 : ((i : Int) == (((n - 1) : Nat) : Int))
            · skip
              have hb100f := ne_of_beq_false hb100
              refine GL.run (j := 10) 8 [1, 2, 3, 4, 8, 10, 40, 43] [(1, .int .i64 (i : Int)), (2, .int .i64 (n : Int)), (3, .slice A N c), (4, pt p3 0), (8, pt p7 0), (10, pt p23 0), (40, .bool false), (43, .bool true)] (by kernel_rfl) rfl ?_
              refine GL.sem (j := 11) (H29.ldA (o := 0) (ty := 24) (m := 32) (sub := by8 (l.getD 0 [])) 2 rfl (by kernel_rfl) (sub_whole (by rw [by8_length, ok32_at hok (by omega)])) (by rw [by8_length, ok32_at hok (by omega)])) [1, 2, 3, 4, 8, 10, 40, 43, 44] [(1, .int .i64 (i : Int)), (2, .int .i64 (n : Int)), (3, .slice A N c), (4, pt p3 0), (8, pt p7 0), (10, pt p23 0), (40, .bool false), (43, .bool true), (44, .agg (by8 (l.getD 0 [])).toArray)] (by kernel_rfl) (by kernel_rfl) rfl ?_
              refine GL.sem (j := 12) (H29.ldA (o := 0) (ty := 24) (m := 32) (sub := by8 g) 0 rfl (by kernel_rfl) (sub_whole (by rw [by8_length, hg])) (by rw [by8_length, hg])) [1, 2, 3, 4, 8, 10, 40, 43, 44, 45] [(1, .int .i64 (i : Int)), (2, .int .i64 (n : Int)), (3, .slice A N c), (4, pt p3 0), (8, pt p7 0), (10, pt p23 0), (40, .bool false), (43, .bool true), (44, .agg (by8 (l.getD 0 [])).toArray), (45, .agg (by8 g).toArray)] (by kernel_rfl) (by kernel_rfl) rfl ?_
              refine GL.sem (j := 13) (run_by8_eql (P := Try.prog) (t := 24) (n := 32) (x := (.tmp 44)) (y := (.tmp 45)) (by kernel_rfl) (l.getD 0 []) g (by rw [ok32_at hok (by omega)]) (by rw [hg]) _) [1, 2, 3, 4, 8, 10, 40, 43, 46] [(1, .int .i64 (i : Int)), (2, .int .i64 (n : Int)), (3, .slice A N c), (4, pt p3 0), (8, pt p7 0), (10, pt p23 0), (40, .bool false), (43, .bool true), (46, .bool (decide ((l.getD 0 []) = g)))] (by kernel_rfl) (by kernel_rfl) rfl ?_
              refine GL.run (j := 15) 2 [1, 2, 3, 4, 8, 10, 48] [(1, .int .i64 (i : Int)), (2, .int .i64 (n : Int)), (3, .slice A N c), (4, pt p3 0), (8, pt p7 0), (10, pt p23 0), (48, .bool (decide ((l.getD 0 []) = g)))] (by kernel_rfl) rfl ?_
              refine GL.k rfl hK99 (fun _ _ h => h) ?_
              cases hb101 : (decide ((l.getD 0 []) = g))
              · skip
                have hb101f := of_decide_eq_false hb101
                refine G.no rfl ?_
                refine G.skipK hK97 (fun _ _ h => h) ?_
                have ea : aloneB i n = false := by unfold aloneB; exact decide_eq_false (by omega)
                have ex : decide (l.getD 0 [] = g) = false := hb101
                refine G.fit [1, 2, 3, 4, 8, 10] (M' := [(1, .int .i64 (i : Int)), (2, .int .i64 (n : Int)), (3, .slice A N c), (4, pt p3 0), (8, pt p7 0), (10, pt p23 0)]) (by kernel_rfl) ?_
                exact J95 () _ ⟨by rw [ea, ex], H29⟩
              · skip
                have hb101f := of_decide_eq_true hb101
                refine G.yes rfl ?_
                refine G.seqK fun K102 hK103 => ?_
                refine G.region ?_
                refine GL.run (j := 1) 1 [8, 49] [(8, pt p7 0), (49, .agg (by8 (List.replicate 32 0)).toArray)] (by kernel_rfl) rfl ?_
                obtain ⟨w104, r105, H106⟩ := H29.stA (P := Try.prog) (o := 0) (vs := by8 (List.replicate 32 0)) (ty := 24) (m := 32) 1 rfl (by kernel_rfl) (by rw [by8_length, List.length_replicate]) (Nat.le_of_eq (by rw [Nat.zero_add]; exact ((show (by8 (List.replicate 32 0)).length = 32 from by rw [by8_length]; rfl)).symm)) (by8_one _)
                rw [st_whole (by rw [by8_length]; rfl)] at H106
                have H106 : Hp w [] [.blk p3 (by8 g) 24, .blk p7 (by8 (List.replicate 32 0)) 24, .blk p23 (by8 (l.getD 0 [])) 24] w104 := H106
                refine GL.semU (j := 2) r105 [8] [(8, pt p7 0)] (by kernel_rfl) rfl rfl rfl ?_
                refine GL.run (j := 3) 1 [8, 9] [(8, pt p7 0), (9, .bool false)] (by kernel_rfl) rfl ?_
                refine GL.k rfl hK103 (fun _ _ h => h) ?_
                refine G.ret ?_
                intro F_ hF_ hM_
                refine hRet _ _ (bodyPost_2 rfl (RV.cell rfl (H106.ldA (o := 0) (ty := 24) (m := 32) (sub := by8 (List.replicate 32 0)) 1 rfl (by kernel_rfl) (sub_whole (by rw [by8_length, List.length_replicate])) (by rw [by8_length, List.length_replicate]))) (RV.tmp rfl) ?_ F_ hF_ hM_)
                have ea : aloneB i n = false := by unfold aloneB; exact decide_eq_false (by omega)
                have ex : decide (l.getD 0 [] = g) = true := hb101
                have hcv : climbR l g i n = ((List.replicate 32 0), false) := climbR_stop (k := 0) (by omega) (by omega) (by rw [ea, ex]; decide)
                rw [hcv]
                exact ⟨rfl, H106.sub (List.nil_sublist _)⟩
            · skip
              have hb100f := eq_of_beq hb100
              refine GL.sem (j := 3) (H29.ldA (o := 0) (ty := 24) (m := 32) (sub := by8 (l.getD 0 [])) 2 rfl (by kernel_rfl) (sub_whole (by rw [by8_length, ok32_at hok (by omega)])) (by rw [by8_length, ok32_at hok (by omega)])) [1, 2, 3, 4, 8, 10, 11, 35, 36] [(1, .int .i64 (i : Int)), (2, .int .i64 (n : Int)), (3, .slice A N c), (4, pt p3 0), (8, pt p7 0), (10, pt p23 0), (11, .bool true), (35, .bool true), (36, .agg (by8 (l.getD 0 [])).toArray)] (by kernel_rfl) (by kernel_rfl) rfl ?_
              refine GL.sem (j := 4) (H29.ldA (o := 0) (ty := 24) (m := 32) (sub := by8 g) 0 rfl (by kernel_rfl) (sub_whole (by rw [by8_length, hg])) (by rw [by8_length, hg])) [1, 2, 3, 4, 8, 10, 11, 35, 36, 37] [(1, .int .i64 (i : Int)), (2, .int .i64 (n : Int)), (3, .slice A N c), (4, pt p3 0), (8, pt p7 0), (10, pt p23 0), (11, .bool true), (35, .bool true), (36, .agg (by8 (l.getD 0 [])).toArray), (37, .agg (by8 g).toArray)] (by kernel_rfl) (by kernel_rfl) rfl ?_
              refine GL.sem (j := 5) (run_by8_neq (P := Try.prog) (t := 24) (n := 32) (x := (.tmp 36)) (y := (.tmp 37)) (by kernel_rfl) (l.getD 0 []) g (by rw [ok32_at hok (by omega)]) (by rw [hg]) _) [1, 2, 3, 4, 8, 10, 11, 35, 38] [(1, .int .i64 (i : Int)), (2, .int .i64 (n : Int)), (3, .slice A N c), (4, pt p3 0), (8, pt p7 0), (10, pt p23 0), (11, .bool true), (35, .bool true), (38, .bool (!(decide ((l.getD 0 []) = g))))] (by kernel_rfl) (by kernel_rfl) rfl ?_
              refine GL.run (j := 7) 2 [1, 2, 3, 4, 8, 10, 11, 40] [(1, .int .i64 (i : Int)), (2, .int .i64 (n : Int)), (3, .slice A N c), (4, pt p3 0), (8, pt p7 0), (10, pt p23 0), (11, .bool true), (40, .bool (!(decide ((l.getD 0 []) = g))))] (by kernel_rfl) rfl ?_
              cases hb107 : (decide ((l.getD 0 []) = g))
              · skip
                have hb107f := of_decide_eq_false hb107
                refine GL.run (j := 15) 8 [1, 2, 3, 4, 8, 10, 48] [(1, .int .i64 (i : Int)), (2, .int .i64 (n : Int)), (3, .slice A N c), (4, pt p3 0), (8, pt p7 0), (10, pt p23 0), (48, .bool true)] (by kernel_rfl) rfl ?_
                refine GL.k rfl hK99 (fun _ _ h => h) ?_
                refine G.yes rfl ?_
                refine G.seqK fun K108 hK109 => ?_
                refine G.region ?_
                refine GL.run (j := 1) 1 [8, 49] [(8, pt p7 0), (49, .agg (by8 (List.replicate 32 0)).toArray)] (by kernel_rfl) rfl ?_
                obtain ⟨w110, r111, H112⟩ := H29.stA (P := Try.prog) (o := 0) (vs := by8 (List.replicate 32 0)) (ty := 24) (m := 32) 1 rfl (by kernel_rfl) (by rw [by8_length, List.length_replicate]) (Nat.le_of_eq (by rw [Nat.zero_add]; exact ((show (by8 (List.replicate 32 0)).length = 32 from by rw [by8_length]; rfl)).symm)) (by8_one _)
                rw [st_whole (by rw [by8_length]; rfl)] at H112
                have H112 : Hp w [] [.blk p3 (by8 g) 24, .blk p7 (by8 (List.replicate 32 0)) 24, .blk p23 (by8 (l.getD 0 [])) 24] w110 := H112
                refine GL.semU (j := 2) r111 [8] [(8, pt p7 0)] (by kernel_rfl) rfl rfl rfl ?_
                refine GL.run (j := 3) 1 [8, 9] [(8, pt p7 0), (9, .bool false)] (by kernel_rfl) rfl ?_
                refine GL.k rfl hK109 (fun _ _ h => h) ?_
                refine G.ret ?_
                intro F_ hF_ hM_
                refine hRet _ _ (bodyPost_2 rfl (RV.cell rfl (H112.ldA (o := 0) (ty := 24) (m := 32) (sub := by8 (List.replicate 32 0)) 1 rfl (by kernel_rfl) (sub_whole (by rw [by8_length, List.length_replicate])) (by rw [by8_length, List.length_replicate]))) (RV.tmp rfl) ?_ F_ hF_ hM_)
                have ea : aloneB i n = true := by unfold aloneB; exact decide_eq_true (by omega)
                have ex : decide (l.getD 0 [] = g) = false := hb107
                have hcv : climbR l g i n = ((List.replicate 32 0), false) := climbR_stop (k := 0) (by omega) (by omega) (by rw [ea, ex]; decide)
                rw [hcv]
                exact ⟨rfl, H112.sub (List.nil_sublist _)⟩
              · skip
                have hb107f := of_decide_eq_true hb107
                refine GL.run (j := 15) 8 [1, 2, 3, 4, 8, 10, 48] [(1, .int .i64 (i : Int)), (2, .int .i64 (n : Int)), (3, .slice A N c), (4, pt p3 0), (8, pt p7 0), (10, pt p23 0), (48, .bool false)] (by kernel_rfl) rfl ?_
                refine GL.k rfl hK99 (fun _ _ h => h) ?_
                refine G.no rfl ?_
                refine G.skipK hK97 (fun _ _ h => h) ?_
                have ea : aloneB i n = true := by unfold aloneB; exact decide_eq_true (by omega)
                have ex : decide (l.getD 0 [] = g) = true := hb107
                refine G.fit [1, 2, 3, 4, 8, 10] (M' := [(1, .int .i64 (i : Int)), (2, .int .i64 (n : Int)), (3, .slice A N c), (4, pt p3 0), (8, pt p7 0), (10, pt p23 0)]) (by kernel_rfl) ?_
                exact J95 () _ ⟨by rw [ea, ex], H29⟩
          · skip
            rintro _v w113 ⟨hi114, H115⟩
            refine G.eq (M' := [(1, .int .i64 (i : Int)), (2, .int .i64 (n : Int)), (3, .slice A N c), (4, pt p3 0), (8, pt p7 0), (10, pt p23 0)]) rfl ?_
            have H115 : Hp w [] [.blk p3 (by8 g) 24, .blk p7 (by8 (List.replicate 32 0)) 24, .blk p23 (by8 (l.getD 0 [])) 24] w113 := H115
            have heqk := hi114
            refine G.seqK fun K116 hK117 => ?_
            refine G.seqK fun K118 hK119 => ?_
            refine G.region ?_
            refine GL.run (j := 3) 3 [1, 2, 3, 4, 8, 10, 52] [(1, .int .i64 (i : Int)), (2, .int .i64 (n : Int)), (3, .slice A N c), (4, pt p3 0), (8, pt p7 0), (10, pt p23 0), (52, .bool ((Int.tmod (i : Int) 2) == 1))] (by kernel_rfl) rfl ?_
            have e120 : (Int.tmod (i : Int) 2) = (((i % 2) : Nat) : Int) := n_rem _ 2
            refine GL.eq (M' := [(1, .int .i64 (i : Int)), (2, .int .i64 (n : Int)), (3, .slice A N c), (4, pt p3 0), (8, pt p7 0), (10, pt p23 0), (52, .bool ((((i % 2) : Nat) : Int) == 1))]) (by rw [e120]) ?_
            clear e120
            refine GL.k rfl hK119 (fun _ _ h => h) ?_
            cases hb121 : ((((i % 2) : Nat) : Int) == 1)
            · skip
              have hb121f := ne_of_beq_false hb121
              refine G.no rfl ?_
              refine G.skipK hK117 (fun _ _ h => h) ?_
              refine G.seqK fun K122 hK123 => ?_
              refine G.heldP (Hp w [] [.blk p3 (by8 g) 24, .blk p23 (by8 (l.getD 0 [])) 24]) (by kernel_rfl) (by kernel_rfl) (fun c_ a_ d_ v_ w_ h_ => hPan c_ a_ d_ v_ w_ h_) ?_
              have H124 := H115.drew
              generalize ({ w113 with drawn := w113.drawn + 1 } : World) = w125 at H124 ⊢
              have hS126 : Hp w [] [.blk p3 (by8 g) 24, .blk p23 (by8 (l.getD 0 [])) 24] w125 := H124.sub (List.Sublist.cons_cons _ (List.Sublist.cons _ (List.Sublist.cons_cons _ (List.Sublist.slnil))))
              refine GP.sem 0 (fun w_ H_ => H_.ldA (o := 0) (ty := 24) (m := 32) (sub := by8 g) 0 rfl (by kernel_rfl) (sub_whole (by rw [by8_length, hg])) (by rw [by8_length, hg])) [1, 2, 3, 8, 10, 66] [(1, .int .i64 (i : Int)), (2, .int .i64 (n : Int)), (3, .slice A N c), (8, pt p7 0), (10, pt p23 0), (66, .agg (by8 g).toArray)] (by kernel_rfl) (by kernel_rfl) (by kernel_rfl) hS126 ?_
              refine GP.sem 1 (fun w_ H_ => H_.ldA (o := 0) (ty := 24) (m := 32) (sub := by8 (l.getD 0 [])) 1 rfl (by kernel_rfl) (sub_whole (by rw [by8_length, ok32_at hok (by omega)])) (by rw [by8_length, ok32_at hok (by omega)])) [1, 2, 3, 8, 66, 67] [(1, .int .i64 (i : Int)), (2, .int .i64 (n : Int)), (3, .slice A N c), (8, pt p7 0), (66, .agg (by8 g).toArray), (67, .agg (by8 (l.getD 0 [])).toArray)] (by kernel_rfl) (by kernel_rfl) (by kernel_rfl) hS126 ?_
              refine GP.run [3, 4, 5, 6, 7, 8] [8, 66, 67, 70, 73, 74] [(8, pt p7 0), (66, .agg (by8 g).toArray), (67, .agg (by8 (l.getD 0 [])).toArray), (70, .int .i64 (IntKind.i64.wrap (Int.tdiv (i : Int) 2))), (73, .int .i64 (IntKind.i64.wrap (Int.tdiv (IntKind.i64.wrap ((n : Int) + 1)) 2))), (74, .slice A N c)] [0, 1, 3, 4, 5, 6, 7, 8] (by kernel_rfl) rfl hS126 ?_
              have e127 : (IntKind.i64.wrap (Int.tdiv (i : Int) 2)) = (((i / 2) : Nat) : Int) := i_quo (a := i) 2 (by omega)
              have e128 : (IntKind.i64.wrap ((n : Int) + 1)) = ((n + 1 : Nat) : Int) := by rw [in_i64 (by omega)]; omega
              have e129 : (IntKind.i64.wrap (Int.tdiv ((n + 1 : Nat) : Int) 2)) = ((((n + 1) / 2) : Nat) : Int) := i_quo (a := (n + 1)) 2 (by omega)
              refine GP.eq (M' := [(8, pt p7 0), (66, .agg (by8 g).toArray), (67, .agg (by8 (l.getD 0 [])).toArray), (70, .int .i64 (((i / 2) : Nat) : Int)), (73, .int .i64 ((((n + 1) / 2) : Nat) : Int)), (74, .slice A N c)]) (by rw [e127, e128, e129]) ?_
              clear e127 e128 e129
              refine GP.sem 9 (fun w_ H_ => run_sliceFrom (P := Try.prog) (t := 33) (len := N) (cap := c) (A := A) (sz := 32) (l := 1) (k1 := .i64) (by kernel_rfl) (by omega) (by omega) _) [8, 66, 67, 70, 73, 75] [(8, pt p7 0), (66, .agg (by8 g).toArray), (67, .agg (by8 (l.getD 0 [])).toArray), (70, .int .i64 (((i / 2) : Nat) : Int)), (73, .int .i64 ((((n + 1) / 2) : Nat) : Int)), (75, .slice (if c = 1 then A else Option.map (fun x => Addr.add x (1 * 32)) A) (N - 1) (c - 1))] (by kernel_rfl) (by kernel_rfl) (by kernel_rfl) hS126 ?_
              refine GP.call 2 (RefBoth_calls g (l.getD 0 []) (by rw [hg]) (by rw [ok32_at hok (by omega)]) w125) (by kernel_rfl) (by kernel_rfl) (fun e_ w130 hR => ?_)
              obtain ⟨rfl, H132⟩ := hR
              have H131 : Hp w [] [.blk p3 (by8 g) 24, .blk p7 (by8 (List.replicate 32 0)) 24, .blk p23 (by8 (l.getD 0 [])) 24] w130 := H124.callNil H132
              have hS133 : Hp w [] [.blk p3 (by8 g) 24, .blk p23 (by8 (l.getD 0 [])) 24] w130 := H131.sub (List.Sublist.cons_cons _ (List.Sublist.cons _ (List.Sublist.cons_cons _ (List.Sublist.slnil))))
              refine ⟨_, rfl, hS133, [8, 68, 70, 73, 75], [(8, pt p7 0), (68, .agg (by8 (bothH g (l.getD 0 []))).toArray), (70, .int .i64 (((i / 2) : Nat) : Int)), (73, .int .i64 ((((n + 1) / 2) : Nat) : Int)), (75, .slice (if c = 1 then A else Option.map (fun x => Addr.add x (1 * 32)) A) (N - 1) (c - 1))], by kernel_rfl, ?_⟩
              refine GP.call 10 (ih (N - 1) (by omega) (l.drop 1) (by rw [List.length_drop]; omega) (bothH g (l.getD 0 [])) (by rw [bothH_length]) (i / 2) ((n + 1) / 2) (if c = 1 then A else Option.map (fun x => Addr.add x (1 * 32)) A) (c - 1) w130 (RdS.rest32 (hx.hp H131) hok (by omega)) (fun x hx => hok x (List.mem_of_mem_drop hx)) (by omega) (by omega) (by omega)) (by kernel_rfl) (by kernel_rfl) (fun e_ w134 hR => ?_)
              obtain ⟨rfl, H136⟩ := hR
              have H135 : Hp w [] [.blk p3 (by8 g) 24, .blk p7 (by8 (List.replicate 32 0)) 24, .blk p23 (by8 (l.getD 0 [])) 24] w134 := H131.callNil H136
              have hS137 : Hp w [] [.blk p3 (by8 g) 24, .blk p23 (by8 (l.getD 0 [])) 24] w134 := H135.sub (List.Sublist.cons_cons _ (List.Sublist.cons _ (List.Sublist.cons_cons _ (List.Sublist.slnil))))
              refine ⟨_, rfl, hS137, [8, 76], [(8, pt p7 0), (76, .tuple #[.agg (by8 (climbR (l.drop 1) (bothH g (l.getD 0 [])) (i / 2) ((n + 1) / 2)).1).toArray, .bool ((climbR (l.drop 1) (bothH g (l.getD 0 [])) (i / 2) ((n + 1) / 2)).2)])], by kernel_rfl, ?_⟩
              refine GP.run [11, 12] [8, 77, 78] [(8, pt p7 0), (77, .agg (by8 (climbR (l.drop 1) (bothH g (l.getD 0 [])) (i / 2) ((n + 1) / 2)).1).toArray), (78, .bool ((climbR (l.drop 1) (bothH g (l.getD 0 [])) (i / 2) ((n + 1) / 2)).2))] [0, 1, 3, 4, 5, 6, 7, 8, 9, 2, 10, 11, 12] (by kernel_rfl) rfl hS137 ?_
              obtain ⟨w138, r139, H140⟩ := H135.stA (P := Try.prog) (o := 0) (vs := by8 (climbR (l.drop 1) (bothH g (l.getD 0 [])) (i / 2) ((n + 1) / 2)).1) (ty := 24) (m := 32) 1 rfl (by kernel_rfl) (by rw [by8_length, climbR_32 _ _ _ _ (bothH_length _ _)]) (Nat.le_of_eq (by rw [Nat.zero_add]; exact ((show (by8 (List.replicate 32 0)).length = 32 from by rw [by8_length]; rfl)).symm)) (by8_one _)
              rw [st_whole (by rw [by8_length]; rfl)] at H140
              have H140 : Hp w [] [.blk p3 (by8 g) 24, .blk p7 (by8 (climbR (l.drop 1) (bothH g (l.getD 0 [])) (i / 2) ((n + 1) / 2)).1) 24, .blk p23 (by8 (l.getD 0 [])) 24] w138 := H140
              have hS141 : Hp w [] [.blk p3 (by8 g) 24, .blk p23 (by8 (l.getD 0 [])) 24] w138 := H140.sub (List.Sublist.cons_cons _ (List.Sublist.cons _ (List.Sublist.cons_cons _ (List.Sublist.slnil))))
              refine GP.semU 13 r139 [8, 78] [(8, pt p7 0), (78, .bool ((climbR (l.drop 1) (bothH g (l.getD 0 [])) (i / 2) ((n + 1) / 2)).2))] (by kernel_rfl) rfl rfl (by kernel_rfl) hS141 ?_
              refine GP.run [14] [8, 9] [(8, pt p7 0), (9, .bool ((climbR (l.drop 1) (bothH g (l.getD 0 [])) (i / 2) ((n + 1) / 2)).2))] [0, 1, 3, 4, 5, 6, 7, 8, 9, 2, 10, 11, 12, 13, 14] (by kernel_rfl) rfl hS141 ?_
              refine GP.k (by kernel_rfl) hK123 (fun _ _ h => h) ?_
              refine G.ret ?_
              intro F_ hF_ hM_
              refine hRet _ _ (bodyPost_2 rfl (RV.cell rfl (H140.ldA (o := 0) (ty := 24) (m := 32) (sub := by8 (climbR (l.drop 1) (bothH g (l.getD 0 [])) (i / 2) ((n + 1) / 2)).1) 1 rfl (by kernel_rfl) (sub_whole (by rw [by8_length, climbR_32 _ _ _ _ (bothH_length _ _)])) (by rw [by8_length, climbR_32 _ _ _ _ (bothH_length _ _)]))) (RV.tmp rfl) ?_ F_ hF_ hM_)
              have hcv : climbR l g i n = climbR (l.drop 1) (bothH g (l.getD 0 [])) (i / 2) ((n + 1) / 2) := by rw [show climbR l g i n = climbR (l.drop 0) g i n from rfl, climbR_on (k := 0) (by omega) (by omega) heqk]; unfold turnH; rw [if_neg (by omega)]
              rw [hcv]
              exact ⟨rfl, H140.sub (List.nil_sublist _)⟩
            · skip
              have hb121f := eq_of_beq hb121
              refine G.yes rfl ?_
              refine G.seqK fun K142 hK143 => ?_
              refine G.heldP (Hp w [] [.blk p3 (by8 g) 24, .blk p23 (by8 (l.getD 0 [])) 24]) (by kernel_rfl) (by kernel_rfl) (fun c_ a_ d_ v_ w_ h_ => hPan c_ a_ d_ v_ w_ h_) ?_
              have H144 := H115.drew
              generalize ({ w113 with drawn := w113.drawn + 1 } : World) = w145 at H144 ⊢
              have hS146 : Hp w [] [.blk p3 (by8 g) 24, .blk p23 (by8 (l.getD 0 [])) 24] w145 := H144.sub (List.Sublist.cons_cons _ (List.Sublist.cons _ (List.Sublist.cons_cons _ (List.Sublist.slnil))))
              refine GP.sem 0 (fun w_ H_ => H_.ldA (o := 0) (ty := 24) (m := 32) (sub := by8 (l.getD 0 [])) 1 rfl (by kernel_rfl) (sub_whole (by rw [by8_length, ok32_at hok (by omega)])) (by rw [by8_length, ok32_at hok (by omega)])) [1, 2, 3, 4, 8, 53] [(1, .int .i64 (i : Int)), (2, .int .i64 (n : Int)), (3, .slice A N c), (4, pt p3 0), (8, pt p7 0), (53, .agg (by8 (l.getD 0 [])).toArray)] (by kernel_rfl) (by kernel_rfl) (by kernel_rfl) hS146 ?_
              refine GP.sem 1 (fun w_ H_ => H_.ldA (o := 0) (ty := 24) (m := 32) (sub := by8 g) 0 rfl (by kernel_rfl) (sub_whole (by rw [by8_length, hg])) (by rw [by8_length, hg])) [1, 2, 3, 8, 53, 54] [(1, .int .i64 (i : Int)), (2, .int .i64 (n : Int)), (3, .slice A N c), (8, pt p7 0), (53, .agg (by8 (l.getD 0 [])).toArray), (54, .agg (by8 g).toArray)] (by kernel_rfl) (by kernel_rfl) (by kernel_rfl) hS146 ?_
              refine GP.run [3, 4, 5, 6, 7, 8] [8, 53, 54, 57, 60, 61] [(8, pt p7 0), (53, .agg (by8 (l.getD 0 [])).toArray), (54, .agg (by8 g).toArray), (57, .int .i64 (IntKind.i64.wrap (Int.tdiv (i : Int) 2))), (60, .int .i64 (IntKind.i64.wrap (Int.tdiv (IntKind.i64.wrap ((n : Int) + 1)) 2))), (61, .slice A N c)] [0, 1, 3, 4, 5, 6, 7, 8] (by kernel_rfl) rfl hS146 ?_
              have e147 : (IntKind.i64.wrap (Int.tdiv (i : Int) 2)) = (((i / 2) : Nat) : Int) := i_quo (a := i) 2 (by omega)
              have e148 : (IntKind.i64.wrap ((n : Int) + 1)) = ((n + 1 : Nat) : Int) := by rw [in_i64 (by omega)]; omega
              have e149 : (IntKind.i64.wrap (Int.tdiv ((n + 1 : Nat) : Int) 2)) = ((((n + 1) / 2) : Nat) : Int) := i_quo (a := (n + 1)) 2 (by omega)
              refine GP.eq (M' := [(8, pt p7 0), (53, .agg (by8 (l.getD 0 [])).toArray), (54, .agg (by8 g).toArray), (57, .int .i64 (((i / 2) : Nat) : Int)), (60, .int .i64 ((((n + 1) / 2) : Nat) : Int)), (61, .slice A N c)]) (by rw [e147, e148, e149]) ?_
              clear e147 e148 e149
              refine GP.sem 9 (fun w_ H_ => run_sliceFrom (P := Try.prog) (t := 33) (len := N) (cap := c) (A := A) (sz := 32) (l := 1) (k1 := .i64) (by kernel_rfl) (by omega) (by omega) _) [8, 53, 54, 57, 60, 62] [(8, pt p7 0), (53, .agg (by8 (l.getD 0 [])).toArray), (54, .agg (by8 g).toArray), (57, .int .i64 (((i / 2) : Nat) : Int)), (60, .int .i64 ((((n + 1) / 2) : Nat) : Int)), (62, .slice (if c = 1 then A else Option.map (fun x => Addr.add x (1 * 32)) A) (N - 1) (c - 1))] (by kernel_rfl) (by kernel_rfl) (by kernel_rfl) hS146 ?_
              refine GP.call 2 (RefBoth_calls (l.getD 0 []) g (by rw [ok32_at hok (by omega)]) (by rw [hg]) w145) (by kernel_rfl) (by kernel_rfl) (fun e_ w150 hR => ?_)
              obtain ⟨rfl, H152⟩ := hR
              have H151 : Hp w [] [.blk p3 (by8 g) 24, .blk p7 (by8 (List.replicate 32 0)) 24, .blk p23 (by8 (l.getD 0 [])) 24] w150 := H144.callNil H152
              have hS153 : Hp w [] [.blk p3 (by8 g) 24, .blk p23 (by8 (l.getD 0 [])) 24] w150 := H151.sub (List.Sublist.cons_cons _ (List.Sublist.cons _ (List.Sublist.cons_cons _ (List.Sublist.slnil))))
              refine ⟨_, rfl, hS153, [8, 55, 57, 60, 62], [(8, pt p7 0), (55, .agg (by8 (bothH (l.getD 0 []) g)).toArray), (57, .int .i64 (((i / 2) : Nat) : Int)), (60, .int .i64 ((((n + 1) / 2) : Nat) : Int)), (62, .slice (if c = 1 then A else Option.map (fun x => Addr.add x (1 * 32)) A) (N - 1) (c - 1))], by kernel_rfl, ?_⟩
              refine GP.call 10 (ih (N - 1) (by omega) (l.drop 1) (by rw [List.length_drop]; omega) (bothH (l.getD 0 []) g) (by rw [bothH_length]) (i / 2) ((n + 1) / 2) (if c = 1 then A else Option.map (fun x => Addr.add x (1 * 32)) A) (c - 1) w150 (RdS.rest32 (hx.hp H151) hok (by omega)) (fun x hx => hok x (List.mem_of_mem_drop hx)) (by omega) (by omega) (by omega)) (by kernel_rfl) (by kernel_rfl) (fun e_ w154 hR => ?_)
              obtain ⟨rfl, H156⟩ := hR
              have H155 : Hp w [] [.blk p3 (by8 g) 24, .blk p7 (by8 (List.replicate 32 0)) 24, .blk p23 (by8 (l.getD 0 [])) 24] w154 := H151.callNil H156
              have hS157 : Hp w [] [.blk p3 (by8 g) 24, .blk p23 (by8 (l.getD 0 [])) 24] w154 := H155.sub (List.Sublist.cons_cons _ (List.Sublist.cons _ (List.Sublist.cons_cons _ (List.Sublist.slnil))))
              refine ⟨_, rfl, hS157, [8, 63], [(8, pt p7 0), (63, .tuple #[.agg (by8 (climbR (l.drop 1) (bothH (l.getD 0 []) g) (i / 2) ((n + 1) / 2)).1).toArray, .bool ((climbR (l.drop 1) (bothH (l.getD 0 []) g) (i / 2) ((n + 1) / 2)).2)])], by kernel_rfl, ?_⟩
              refine GP.run [11, 12] [8, 64, 65] [(8, pt p7 0), (64, .agg (by8 (climbR (l.drop 1) (bothH (l.getD 0 []) g) (i / 2) ((n + 1) / 2)).1).toArray), (65, .bool ((climbR (l.drop 1) (bothH (l.getD 0 []) g) (i / 2) ((n + 1) / 2)).2))] [0, 1, 3, 4, 5, 6, 7, 8, 9, 2, 10, 11, 12] (by kernel_rfl) rfl hS157 ?_
              obtain ⟨w158, r159, H160⟩ := H155.stA (P := Try.prog) (o := 0) (vs := by8 (climbR (l.drop 1) (bothH (l.getD 0 []) g) (i / 2) ((n + 1) / 2)).1) (ty := 24) (m := 32) 1 rfl (by kernel_rfl) (by rw [by8_length, climbR_32 _ _ _ _ (bothH_length _ _)]) (Nat.le_of_eq (by rw [Nat.zero_add]; exact ((show (by8 (List.replicate 32 0)).length = 32 from by rw [by8_length]; rfl)).symm)) (by8_one _)
              rw [st_whole (by rw [by8_length]; rfl)] at H160
              have H160 : Hp w [] [.blk p3 (by8 g) 24, .blk p7 (by8 (climbR (l.drop 1) (bothH (l.getD 0 []) g) (i / 2) ((n + 1) / 2)).1) 24, .blk p23 (by8 (l.getD 0 [])) 24] w158 := H160
              have hS161 : Hp w [] [.blk p3 (by8 g) 24, .blk p23 (by8 (l.getD 0 [])) 24] w158 := H160.sub (List.Sublist.cons_cons _ (List.Sublist.cons _ (List.Sublist.cons_cons _ (List.Sublist.slnil))))
              refine GP.semU 13 r159 [8, 65] [(8, pt p7 0), (65, .bool ((climbR (l.drop 1) (bothH (l.getD 0 []) g) (i / 2) ((n + 1) / 2)).2))] (by kernel_rfl) rfl rfl (by kernel_rfl) hS161 ?_
              refine GP.run [14] [8, 9] [(8, pt p7 0), (9, .bool ((climbR (l.drop 1) (bothH (l.getD 0 []) g) (i / 2) ((n + 1) / 2)).2))] [0, 1, 3, 4, 5, 6, 7, 8, 9, 2, 10, 11, 12, 13, 14] (by kernel_rfl) rfl hS161 ?_
              refine GP.k (by kernel_rfl) hK143 (fun _ _ h => h) ?_
              refine G.ret ?_
              intro F_ hF_ hM_
              refine hRet _ _ (bodyPost_2 rfl (RV.cell rfl (H160.ldA (o := 0) (ty := 24) (m := 32) (sub := by8 (climbR (l.drop 1) (bothH (l.getD 0 []) g) (i / 2) ((n + 1) / 2)).1) 1 rfl (by kernel_rfl) (sub_whole (by rw [by8_length, climbR_32 _ _ _ _ (bothH_length _ _)])) (by rw [by8_length, climbR_32 _ _ _ _ (bothH_length _ _)]))) (RV.tmp rfl) ?_ F_ hF_ hM_)
              have hcv : climbR l g i n = climbR (l.drop 1) (bothH (l.getD 0 []) g) (i / 2) ((n + 1) / 2) := by rw [show climbR l g i n = climbR (l.drop 0) g i n from rfl, climbR_on (k := 0) (by omega) (by omega) heqk]; unfold turnH; rw [if_pos (by omega)]
              rw [hcv]
              exact ⟨rfl, H160.sub (List.nil_sublist _)⟩
      · skip
        have hb20f := eq_of_beq hb20
        refine G.yes rfl ?_
        refine G.seqK fun K162 hK163 => ?_
        refine G.region ?_
        refine GL.run (j := 1) 1 [8, 21] [(8, pt p7 0), (21, .agg (by8 (List.replicate 32 0)).toArray)] (by kernel_rfl) rfl ?_
        obtain ⟨w164, r165, H166⟩ := H10.stA (P := Try.prog) (o := 0) (vs := by8 (List.replicate 32 0)) (ty := 24) (m := 32) 1 rfl (by kernel_rfl) (by rw [by8_length, List.length_replicate]) (Nat.le_of_eq (by rw [Nat.zero_add]; exact ((show (by8 (List.replicate 32 0)).length = 32 from by rw [by8_length]; rfl)).symm)) (by8_one _)
        rw [st_whole (by rw [by8_length]; rfl)] at H166
        have H166 : Hp w [] [.blk p3 (by8 g) 24, .blk p7 (by8 (List.replicate 32 0)) 24] w164 := H166
        refine GL.semU (j := 2) r165 [8] [(8, pt p7 0)] (by kernel_rfl) rfl rfl rfl ?_
        refine GL.run (j := 3) 1 [8, 9] [(8, pt p7 0), (9, .bool false)] (by kernel_rfl) rfl ?_
        refine GL.k rfl hK163 (fun _ _ h => h) ?_
        refine G.ret ?_
        intro F_ hF_ hM_
        refine hRet _ _ (bodyPost_2 rfl (RV.cell rfl (H166.ldA (o := 0) (ty := 24) (m := 32) (sub := by8 (List.replicate 32 0)) 1 rfl (by kernel_rfl) (sub_whole (by rw [by8_length, List.length_replicate])) (by rw [by8_length, List.length_replicate]))) (RV.tmp rfl) ?_ F_ hF_ hM_)
        have hcv : climbR l g i n = ((List.replicate 32 0), false) := climbR_nil (by omega) (by omega)
        rw [hcv]
        exact ⟨rfl, H166.sub (List.nil_sublist _)⟩
    · skip
      have hb15f := eq_of_beq hb15
      refine G.yes rfl ?_
      refine G.seqK fun K167 hK168 => ?_
      refine G.region ?_
      refine GL.sem (j := 1) (H10.ldA (o := 0) (ty := 24) (m := 32) (sub := by8 g) 0 rfl (by kernel_rfl) (sub_whole (by rw [by8_length, hg])) (by rw [by8_length, hg])) [3, 8, 14] [(3, .slice A N c), (8, pt p7 0), (14, .agg (by8 g).toArray)] (by kernel_rfl) (by kernel_rfl) rfl ?_
      refine GL.run (j := 4) 3 [8, 14, 17] [(8, pt p7 0), (14, .agg (by8 g).toArray), (17, .bool ((N : Int) == 0))] (by kernel_rfl) rfl ?_
      obtain ⟨w169, r170, H171⟩ := H10.stA (P := Try.prog) (o := 0) (vs := by8 g) (ty := 24) (m := 32) 1 rfl (by kernel_rfl) (by rw [by8_length, hg]) (Nat.le_of_eq (by rw [Nat.zero_add]; exact ((show (by8 (List.replicate 32 0)).length = 32 from by rw [by8_length]; rfl)).symm)) (by8_one _)
      rw [st_whole (by rw [by8_length]; rfl)] at H171
      have H171 : Hp w [] [.blk p3 (by8 g) 24, .blk p7 (by8 g) 24] w169 := H171
      refine GL.semU (j := 5) r170 [8, 17] [(8, pt p7 0), (17, .bool ((N : Int) == 0))] (by kernel_rfl) rfl rfl rfl ?_
      refine GL.run (j := 6) 1 [8, 9] [(8, pt p7 0), (9, .bool ((N : Int) == 0))] (by kernel_rfl) rfl ?_
      refine GL.k rfl hK168 (fun _ _ h => h) ?_
      refine G.ret ?_
      intro F_ hF_ hM_
      refine hRet _ _ (bodyPost_2 rfl (RV.cell rfl (H171.ldA (o := 0) (ty := 24) (m := 32) (sub := by8 g) 1 rfl (by kernel_rfl) (sub_whole (by rw [by8_length, hg])) (by rw [by8_length, hg]))) (RV.tmp rfl) ?_ F_ hF_ hM_)
      have hcv : climbR l g i n = (g, ((N : Int) == 0)) := by rw [show n = 1 by omega, climbR_one]; congr 1; rw [Bool.eq_iff_iff]; simp only [decide_eq_true_eq, beq_iff_eq]; omega
      rw [hcv]
      exact ⟨rfl, H171.sub (List.nil_sublist _)⟩
end Go.Proofs.Ytgmggjnoegelgaa
namespace Go.Proofs.Ytgmggjnoegelgaa
open Go.RowKit
theorem MerkleClimbs_calls (g : List UInt8) (hg : g.length = 32) (z m : Int) (A : Option Addr) (c : Nat) (l : List (List UInt8)) (r : List UInt8) (hr : r.length = 32) (w : World) (hx : RdS w A (by8 (flat8 l))) (hok : ok32 l) (hc : l.length ≤ c) : Calls Try.prog 5 #[.agg (by8 g).toArray, .int .i64 z, .int .i64 m, .slice A l.length c, .agg (by8 r).toArray] w fun e w' => e = .returned (.bool true) ∧ Hp w [] [] w' := by
  refine calls_G (args := [.agg (by8 g).toArray, .int .i64 z, .int .i64 m, .slice A l.length c, .agg (by8 r).toArray]) Try.func5 rfl Try.ntmps5 rfl ?_
  intro Q0 hRet hNor hPan
  have H := Hp.start w
  have H : Hp w [] [] w := H
  refine G.seqK fun K1 hK2 => ?_
  refine G.region ?_
  obtain ⟨p3, w4, r5, H6⟩ := H.box (P := Try.prog) 25 (by8 g) (.agg (by8 g).toArray) rfl
  have H6 : Hp w [] [.blk p3 (by8 g) 25] w4 := H6
  refine GL.sem (j := 1) (r5) [1, 2, 3, 4, 5] [(1, .int .i64 z), (2, .int .i64 m), (3, .slice A l.length c), (4, .agg (by8 r).toArray), (5, pt p3 0)] (by kernel_rfl) (by kernel_rfl) rfl ?_
  obtain ⟨p7, w8, r9, H10⟩ := H6.box (P := Try.prog) 25 (by8 r) (.agg (by8 r).toArray) rfl
  have H10 : Hp w [] [.blk p3 (by8 g) 25, .blk p7 (by8 r) 25] w8 := H10
  refine GL.sem (j := 2) (r9) [1, 2, 3, 5, 9] [(1, .int .i64 z), (2, .int .i64 m), (3, .slice A l.length c), (5, pt p3 0), (9, pt p7 0)] (by kernel_rfl) (by kernel_rfl) rfl ?_
  refine GL.run (j := 3) 1 [1, 2, 3, 5, 9] [(1, .int .i64 z), (2, .int .i64 m), (3, .slice A l.length c), (5, pt p3 0), (9, pt p7 0)] (by kernel_rfl) rfl ?_
  refine GL.k rfl hK2 (fun _ _ h => h) ?_
  refine G.seqK fun K11 hK12 => ?_
  refine G.seqK fun K13 hK14 => ?_
  refine G.region ?_
  refine GL.call (j := 1) (lives_calls w8) (by kernel_rfl) rfl (fun e_ w15 hR => ?_)
  obtain ⟨rfl, H17⟩ := hR
  have H16 : Hp w [] [.blk p3 (by8 g) 25, .blk p7 (by8 r) 25] w15 := H10.callNil H17
  refine ⟨_, rfl, [1, 2, 3, 5, 9, 16], [(1, .int .i64 z), (2, .int .i64 m), (3, .slice A l.length c), (5, pt p3 0), (9, pt p7 0), (16, .bool true)], by kernel_rfl, ?_⟩
  refine GL.run (j := 7) 6 [1, 2, 3, 5, 9, 22] [(1, .int .i64 z), (2, .int .i64 m), (3, .slice A l.length c), (5, pt p3 0), (9, pt p7 0), (22, .bool (decide (20 < (l.length : Int))))] (by kernel_rfl) rfl ?_
  refine GL.k rfl hK14 (fun _ _ h => h) ?_
  cases hb18 : (decide (20 < (l.length : Int)))
  · skip
    have hb18f := of_decide_eq_false hb18
    refine G.no rfl ?_
    refine G.skipK hK12 (fun _ _ h => h) ?_
    refine G.seqK fun K19 hK20 => ?_
    refine G.region ?_
    refine GL.sem (j := 1) (H16.ldA (o := 0) (ty := 25) (m := 32) (sub := by8 g) 0 rfl (by kernel_rfl) (sub_whole (by rw [by8_length, hg])) (by rw [by8_length, hg])) [1, 2, 3, 5, 9, 25] [(1, .int .i64 z), (2, .int .i64 m), (3, .slice A l.length c), (5, pt p3 0), (9, pt p7 0), (25, .agg (by8 g).toArray)] (by kernel_rfl) (by kernel_rfl) rfl ?_
    refine GL.run (j := 4) 3 [1, 2, 3, 5, 9, 25, 26, 27, 28] [(1, .int .i64 z), (2, .int .i64 m), (3, .slice A l.length c), (5, pt p3 0), (9, pt p7 0), (25, .agg (by8 g).toArray), (26, .int .i64 z), (27, .int .i64 m), (28, .slice A l.length c)] (by kernel_rfl) rfl ?_
    refine GL.call (j := 5) (Climb_calls g (by rw [hg]) z m A c l w15 (hx.hp H16) hok (by omega)) (by kernel_rfl) rfl (fun e_ w21 hR => ?_)
    obtain ⟨rfl, H23⟩ := hR
    have H22 : Hp w [] [.blk p3 (by8 g) 25, .blk p7 (by8 r) 25] w21 := H16.callNil H23
    refine ⟨_, rfl, [1, 2, 3, 5, 9, 29], [(1, .int .i64 z), (2, .int .i64 m), (3, .slice A l.length c), (5, pt p3 0), (9, pt p7 0), (29, .tuple #[.agg (by8 (climbV l g z m)).toArray, .int .i64 (((climbE l g z m) : Nat) : Int)])], by kernel_rfl, ?_⟩
    refine GL.run (j := 8) 3 [1, 2, 3, 5, 9, 30, 31] [(1, .int .i64 z), (2, .int .i64 m), (3, .slice A l.length c), (5, pt p3 0), (9, pt p7 0), (30, .agg (by8 (climbV l g z m)).toArray), (31, .int .i64 (((climbE l g z m) : Nat) : Int))] (by kernel_rfl) rfl ?_
    obtain ⟨p24, w25, r26, H27⟩ := H22.alloc (P := Try.prog) 25 (by8 (List.replicate 32 0)) (by kernel_rfl)
    have H27 : Hp w [] [.blk p3 (by8 g) 25, .blk p7 (by8 r) 25, .blk p24 (by8 (List.replicate 32 0)) 25] w25 := H27
    refine GL.sem (j := 9) (r26) [1, 2, 3, 5, 9, 11, 30, 31] [(1, .int .i64 z), (2, .int .i64 m), (3, .slice A l.length c), (5, pt p3 0), (9, pt p7 0), (11, pt p24 0), (30, .agg (by8 (climbV l g z m)).toArray), (31, .int .i64 (((climbE l g z m) : Nat) : Int))] (by kernel_rfl) (by kernel_rfl) rfl ?_
    obtain ⟨w28, r29, H30⟩ := H27.stA (P := Try.prog) (o := 0) (vs := by8 (climbV l g z m)) (ty := 25) (m := 32) 2 rfl (by kernel_rfl) (by rw [by8_length, climbV_length hg]) (Nat.le_of_eq (by rw [Nat.zero_add]; exact ((show (by8 (List.replicate 32 0)).length = 32 from by rw [by8_length]; rfl)).symm)) (by8_one _)
    rw [st_whole (by rw [by8_length]; rfl)] at H30
    have H30 : Hp w [] [.blk p3 (by8 g) 25, .blk p7 (by8 r) 25, .blk p24 (by8 (climbV l g z m)) 25] w28 := H30
    refine GL.semU (j := 10) r29 [1, 2, 3, 5, 9, 11, 31] [(1, .int .i64 z), (2, .int .i64 m), (3, .slice A l.length c), (5, pt p3 0), (9, pt p7 0), (11, pt p24 0), (31, .int .i64 (((climbE l g z m) : Nat) : Int))] (by kernel_rfl) rfl rfl rfl ?_
    refine GL.run (j := 11) 1 [1, 2, 3, 5, 9, 11, 12] [(1, .int .i64 z), (2, .int .i64 m), (3, .slice A l.length c), (5, pt p3 0), (9, pt p7 0), (11, pt p24 0), (12, .int .i64 (((climbE l g z m) : Nat) : Int))] (by kernel_rfl) rfl ?_
    refine GL.k rfl hK20 (fun _ _ h => h) ?_
    refine G.seqK fun K31 hK32 => ?_
    refine G.region ?_
    refine GL.sem (j := 1) (H30.ldA (o := 0) (ty := 25) (m := 32) (sub := by8 r) 1 rfl (by kernel_rfl) (sub_whole (by rw [by8_length, hr])) (by rw [by8_length, hr])) [1, 2, 3, 5, 9, 11, 12, 32] [(1, .int .i64 z), (2, .int .i64 m), (3, .slice A l.length c), (5, pt p3 0), (9, pt p7 0), (11, pt p24 0), (12, .int .i64 (((climbE l g z m) : Nat) : Int)), (32, .agg (by8 r).toArray)] (by kernel_rfl) (by kernel_rfl) rfl ?_
    refine GL.sem (j := 2) (H30.ldA (o := 0) (ty := 25) (m := 32) (sub := by8 g) 0 rfl (by kernel_rfl) (sub_whole (by rw [by8_length, hg])) (by rw [by8_length, hg])) [1, 2, 3, 5, 9, 11, 12, 32, 33] [(1, .int .i64 z), (2, .int .i64 m), (3, .slice A l.length c), (5, pt p3 0), (9, pt p7 0), (11, pt p24 0), (12, .int .i64 (((climbE l g z m) : Nat) : Int)), (32, .agg (by8 r).toArray), (33, .agg (by8 g).toArray)] (by kernel_rfl) (by kernel_rfl) rfl ?_
    refine GL.run (j := 5) 3 [1, 2, 3, 5, 9, 11, 12, 32, 33, 34, 35, 36] [(1, .int .i64 z), (2, .int .i64 m), (3, .slice A l.length c), (5, pt p3 0), (9, pt p7 0), (11, pt p24 0), (12, .int .i64 (((climbE l g z m) : Nat) : Int)), (32, .agg (by8 r).toArray), (33, .agg (by8 g).toArray), (34, .int .i64 z), (35, .int .i64 m), (36, .slice A l.length c)] (by kernel_rfl) rfl ?_
    refine GL.call (j := 6) (Check_calls2 r (by rw [hr]) g (by rw [hg]) z m A c l w28 (hx.hp H30) hok (by omega)) (by kernel_rfl) rfl (fun e_ w33 hR => ?_)
    obtain ⟨rfl, H35⟩ := hR
    have H34 : Hp w [] [.blk p3 (by8 g) 25, .blk p7 (by8 r) 25, .blk p24 (by8 (climbV l g z m)) 25] w33 := H30.callNil H35
    refine ⟨_, rfl, [1, 2, 3, 5, 9, 11, 12, 37], [(1, .int .i64 z), (2, .int .i64 m), (3, .slice A l.length c), (5, pt p3 0), (9, pt p7 0), (11, pt p24 0), (12, .int .i64 (((climbE l g z m) : Nat) : Int)), (37, .bool (checkB l r g z m))], by kernel_rfl, ?_⟩
    refine GL.run (j := 7) 1 [1, 2, 3, 5, 9, 11, 12, 13] [(1, .int .i64 z), (2, .int .i64 m), (3, .slice A l.length c), (5, pt p3 0), (9, pt p7 0), (11, pt p24 0), (12, .int .i64 (((climbE l g z m) : Nat) : Int)), (13, .bool (checkB l r g z m))] (by kernel_rfl) rfl ?_
    refine GL.k rfl hK32 (fun _ _ h => h) ?_
    refine G.seqK fun K36 hK37 => ?_
    refine G.seqK fun K38 hK39 => ?_
    refine G.region ?_
    refine GL.run (j := 3) 3 [1, 2, 3, 5, 9, 11, 12, 13, 40] [(1, .int .i64 z), (2, .int .i64 m), (3, .slice A l.length c), (5, pt p3 0), (9, pt p7 0), (11, pt p24 0), (12, .int .i64 (((climbE l g z m) : Nat) : Int)), (13, .bool (checkB l r g z m)), (40, .bool (decide (m < 1)))] (by kernel_rfl) rfl ?_
    cases hb40 : (decide (m < 1))
    · skip
      have hb40f := of_decide_eq_false hb40
      refine GL.run (j := 7) 4 [1, 2, 3, 5, 9, 11, 12, 13, 44] [(1, .int .i64 z), (2, .int .i64 m), (3, .slice A l.length c), (5, pt p3 0), (9, pt p7 0), (11, pt p24 0), (12, .int .i64 (((climbE l g z m) : Nat) : Int)), (13, .bool (checkB l r g z m)), (44, .bool (decide (65536 < m)))] (by kernel_rfl) rfl ?_
      cases hb41 : (decide (65536 < m))
      · skip
        have hb41f := of_decide_eq_false hb41
        refine GL.run (j := 11) 4 [1, 2, 3, 5, 9, 11, 12, 13, 48] [(1, .int .i64 z), (2, .int .i64 m), (3, .slice A l.length c), (5, pt p3 0), (9, pt p7 0), (11, pt p24 0), (12, .int .i64 (((climbE l g z m) : Nat) : Int)), (13, .bool (checkB l r g z m)), (48, .bool (decide (z < 0)))] (by kernel_rfl) rfl ?_
        cases hb42 : (decide (z < 0))
        · skip
          have hb42f := of_decide_eq_false hb42
          refine GL.run (j := 15) 4 [1, 2, 3, 5, 9, 11, 12, 13, 52] [(1, .int .i64 z), (2, .int .i64 m), (3, .slice A l.length c), (5, pt p3 0), (9, pt p7 0), (11, pt p24 0), (12, .int .i64 (((climbE l g z m) : Nat) : Int)), (13, .bool (checkB l r g z m)), (52, .bool (decide (m ≤ z)))] (by kernel_rfl) rfl ?_
          refine GL.k rfl hK39 (fun _ _ h => h) ?_
          cases hb43 : (decide (m ≤ z))
          · skip
            have hb43f := of_decide_eq_false hb43
            obtain ⟨n, hmn⟩ : ∃ n : Nat, m = (n : Int) := ⟨m.toNat, by omega⟩
            obtain ⟨i, hzi⟩ : ∃ i : Nat, z = (i : Int) := ⟨z.toNat, by omega⟩
            have hce0 : climbE l g z m = if (climbR l g i n).2 = true then 0 else 14 := by unfold climbE; rw [if_pos ⟨by unfold leafB; exact decide_eq_true (by omega), by omega, by omega⟩, hmn, hzi, Int.toNat_natCast, Int.toNat_natCast]
            refine G.eq (M' := [(1, .int .i64 (i : Int)), (2, .int .i64 (n : Int)), (3, .slice A l.length c), (5, pt p3 0), (9, pt p7 0), (11, pt p24 0), (12, .int .i64 (((climbE l g z m) : Nat) : Int)), (13, .bool (checkB l r g z m)), (52, .bool false)]) (by rw [← hzi, ← hmn]) ?_
            refine G.no rfl ?_
            refine G.skipK hK37 (fun _ _ h => h) ?_
            refine G.seqK fun K44 hK45 => ?_
            refine G.heldP (Hp w [] [.blk p3 (by8 g) 25, .blk p7 (by8 r) 25, .blk p24 (by8 (climbV l g z m)) 25]) (by kernel_rfl) (by kernel_rfl) (fun c_ a_ d_ v_ w_ h_ => hPan c_ a_ d_ v_ w_ h_) ?_
            have H46 := H34.drew
            generalize ({ w33 with drawn := w33.drawn + 1 } : World) = w47 at H46 ⊢
            have hS48 : Hp w [] [.blk p3 (by8 g) 25, .blk p7 (by8 r) 25, .blk p24 (by8 (climbV l g z m)) 25] w47 := H46.sub (List.Sublist.cons_cons _ (List.Sublist.cons_cons _ (List.Sublist.cons_cons _ (List.Sublist.slnil))))
            refine GP.sem 0 (fun w_ H_ => H_.ldA (o := 0) (ty := 25) (m := 32) (sub := by8 g) 0 rfl (by kernel_rfl) (sub_whole (by rw [by8_length, hg])) (by rw [by8_length, hg])) [1, 2, 3, 5, 9, 11, 12, 13, 64] [(1, .int .i64 (i : Int)), (2, .int .i64 (n : Int)), (3, .slice A l.length c), (5, pt p3 0), (9, pt p7 0), (11, pt p24 0), (12, .int .i64 (((climbE l g z m) : Nat) : Int)), (13, .bool (checkB l r g z m)), (64, .agg (by8 g).toArray)] (by kernel_rfl) (by kernel_rfl) (by kernel_rfl) hS48 ?_
            refine GP.run [1, 2, 3] [1, 2, 3, 5, 9, 11, 12, 13, 64, 65, 66, 67] [(1, .int .i64 (i : Int)), (2, .int .i64 (n : Int)), (3, .slice A l.length c), (5, pt p3 0), (9, pt p7 0), (11, pt p24 0), (12, .int .i64 (((climbE l g z m) : Nat) : Int)), (13, .bool (checkB l r g z m)), (64, .agg (by8 g).toArray), (65, .int .i64 (i : Int)), (66, .int .i64 (n : Int)), (67, .slice A l.length c)] [0, 1, 2, 3] (by kernel_rfl) rfl hS48 ?_
            refine GP.named fun Xd_ hXd_ => ?_
            have st91 : ∀ (wD_ : World) (A49 : Option Addr) (c50 : Nat) (p77 : Nat), Hp w [] [.blk p3 (by8 g) 25, .blk p7 (by8 r) 25, .blk p24 (by8 (climbV l g z m)) 25, .row A49 l.length c50 24 32 (by8 (flat8 l)), .blk p77 (by8 (List.replicate 32 0)) 24] wD_ → Xd_ [0, 1, 2, 3, 4, 5, 6, 7, 8, 9] [(1, .int .i64 (i : Int)), (2, .int .i64 (n : Int)), (3, .slice A l.length c), (5, pt p3 0), (9, pt p7 0), (11, pt p24 0), (12, .int .i64 (((climbE l g z m) : Nat) : Int)), (13, .bool (checkB l r g z m)), (14, pt p77 0), (70, .agg (by8 (climbR l g i n).1).toArray), (71, .bool ((climbR l g i n).2))] wD_ := by
              intro wD_ A49 c50 p77 HD_
              rw [hXd_]
              have hS92 : Hp w [] [.blk p3 (by8 g) 25, .blk p7 (by8 r) 25, .blk p24 (by8 (climbV l g z m)) 25] wD_ := HD_.sub (List.Sublist.cons_cons _ (List.Sublist.cons_cons _ (List.Sublist.cons_cons _ (List.Sublist.cons _ (List.Sublist.cons _ (List.Sublist.slnil))))))
              obtain ⟨w93, r94, H95⟩ := HD_.stA (P := Try.prog) (o := 0) (vs := by8 (climbR l g i n).1) (ty := 24) (m := 32) 4 rfl (by kernel_rfl) (by rw [by8_length, climbR_32 _ _ _ _ hg]) (Nat.le_of_eq (by rw [Nat.zero_add]; exact ((show (by8 (List.replicate 32 0)).length = 32 from by rw [by8_length]; rfl)).symm)) (by8_one _)
              rw [st_whole (by rw [by8_length]; rfl)] at H95
              have H95 : Hp w [] [.blk p3 (by8 g) 25, .blk p7 (by8 r) 25, .blk p24 (by8 (climbV l g z m)) 25, .row A49 l.length c50 24 32 (by8 (flat8 l)), .blk p77 (by8 (climbR l g i n).1) 24] w93 := H95
              have hS96 : Hp w [] [.blk p3 (by8 g) 25, .blk p7 (by8 r) 25, .blk p24 (by8 (climbV l g z m)) 25] w93 := H95.sub (List.Sublist.cons_cons _ (List.Sublist.cons_cons _ (List.Sublist.cons_cons _ (List.Sublist.cons _ (List.Sublist.cons _ (List.Sublist.slnil))))))
              refine GP.semU 10 r94 [1, 2, 3, 5, 9, 11, 12, 13, 14, 71] [(1, .int .i64 (i : Int)), (2, .int .i64 (n : Int)), (3, .slice A l.length c), (5, pt p3 0), (9, pt p7 0), (11, pt p24 0), (12, .int .i64 (((climbE l g z m) : Nat) : Int)), (13, .bool (checkB l r g z m)), (14, pt p77 0), (71, .bool ((climbR l g i n).2))] (by kernel_rfl) rfl rfl (by kernel_rfl) hS96 ?_
              refine GP.run [11] [1, 2, 3, 5, 9, 11, 12, 13, 14, 15] [(1, .int .i64 (i : Int)), (2, .int .i64 (n : Int)), (3, .slice A l.length c), (5, pt p3 0), (9, pt p7 0), (11, pt p24 0), (12, .int .i64 (((climbE l g z m) : Nat) : Int)), (13, .bool (checkB l r g z m)), (14, pt p77 0), (15, .bool ((climbR l g i n).2))] [0, 1, 2, 3, 4, 5, 6, 7, 8, 9, 10, 11] (by kernel_rfl) rfl hS96 ?_
              refine GP.k (by kernel_rfl) hK45 (fun _ _ h => h) ?_
              refine G.seqK fun K97 hK98 => ?_
              refine G.seqK fun K99 hK100 => ?_
              refine G.region ?_
              refine GL.run (j := 2) 2 [1, 2, 3, 5, 9, 11, 12, 13, 14, 73] [(1, .int .i64 (i : Int)), (2, .int .i64 (n : Int)), (3, .slice A l.length c), (5, pt p3 0), (9, pt p7 0), (11, pt p24 0), (12, .int .i64 (((climbE l g z m) : Nat) : Int)), (13, .bool (checkB l r g z m)), (14, pt p77 0), (73, .bool (!(climbR l g i n).2))] (by kernel_rfl) rfl ?_
              refine GL.k rfl hK100 (fun _ _ h => h) ?_
              cases hb101 : (climbR l g i n).2
              · skip
                have hce : climbE l g z m = 14 := by rw [hce0, hb101]; rfl
                refine G.yes rfl ?_
                refine G.seqK fun K102 hK103 => ?_
                refine G.region ?_
                refine GL.run (j := 3) 3 [11, 13, 76] [(11, pt p24 0), (13, .bool (checkB l r g z m)), (76, .bool ((((climbE l g z m) : Nat) : Int) == 14))] (by kernel_rfl) rfl ?_
                have hb104 : ((((climbE l g z m) : Nat) : Int) == 14) = true := by rw [hce]; rfl
                rw [hb104]
                refine GL.sem (j := 4) (H95.ldA (o := 0) (ty := 25) (m := 32) (sub := by8 (climbV l g z m)) 2 rfl (by kernel_rfl) (sub_whole (by rw [by8_length, climbV_length hg])) (by rw [by8_length, climbV_length hg])) [13, 76, 77] [(13, .bool (checkB l r g z m)), (76, .bool true), (77, .agg (by8 (climbV l g z m)).toArray)] (by kernel_rfl) (by kernel_rfl) rfl ?_
                refine GL.call (j := 5) (Zero_calls (climbV l g z m) (by rw [climbV_length hg]) w93) (by kernel_rfl) rfl (fun e_ w105 hR => ?_)
                obtain ⟨rfl, H107⟩ := hR
                have H106 : Hp w [] [.blk p3 (by8 g) 25, .blk p7 (by8 r) 25, .blk p24 (by8 (climbV l g z m)) 25, .row A49 l.length c50 24 32 (by8 (flat8 l)), .blk p77 (by8 (climbR l g i n).1) 24] w105 := H95.callNil H107
                refine ⟨_, rfl, [13, 76, 78], [(13, .bool (checkB l r g z m)), (76, .bool true), (78, .bool (decide ((climbV l g z m) = (List.replicate 32 0))))], by kernel_rfl, ?_⟩
                refine GL.run (j := 7) 2 [13, 80] [(13, .bool (checkB l r g z m)), (80, .bool (decide ((climbV l g z m) = (List.replicate 32 0))))] (by kernel_rfl) rfl ?_
                have hb108 : (decide ((climbV l g z m) = (List.replicate 32 0))) = true := decide_eq_true (by unfold climbV; rw [hce, if_neg (by decide)])
                rw [hb108]
                refine GL.run (j := 11) 4 [10] [(10, .bool (!(checkB l r g z m)))] (by kernel_rfl) rfl ?_
                refine GL.k rfl hK103 (fun _ _ h => h) ?_
                refine G.ret ?_
                intro F_ hF_ hM_
                refine hRet _ _ (bodyPost_1 rfl (RV.tmp rfl) ?_ F_ hF_ hM_)
                have hb109 : (!(checkB l r g z m)) = true := by rw [show (checkB l r g z m) = false from decide_eq_false (fun h => by omega)]; rfl
                rw [hb109]
                exact ⟨rfl, H106.sub (List.nil_sublist _)⟩
              · skip
                have hce : climbE l g z m = 0 := by rw [hce0, hb101]; rfl
                have hcv : climbV l g z m = (climbR l g i n).1 := by unfold climbV; rw [if_pos hce, hmn, hzi, Int.toNat_natCast, Int.toNat_natCast]
                have hck : checkB l r g z m = decide (climbV l g z m = r) := by unfold checkB; rw [Bool.eq_iff_iff]; simp only [decide_eq_true_eq]; exact ⟨fun h => h.2, fun h => ⟨hce, h⟩⟩
                refine G.no rfl ?_
                refine G.skipK hK98 (fun _ _ h => h) ?_
                refine G.seqK fun K110 hK111 => ?_
                refine G.region ?_
                refine GL.run (j := 3) 3 [1, 2, 3, 5, 9, 11, 13, 14, 86] [(1, .int .i64 (i : Int)), (2, .int .i64 (n : Int)), (3, .slice A l.length c), (5, pt p3 0), (9, pt p7 0), (11, pt p24 0), (13, .bool (checkB l r g z m)), (14, pt p77 0), (86, .bool ((((climbE l g z m) : Nat) : Int) == 0))] (by kernel_rfl) rfl ?_
                have hb112 : ((((climbE l g z m) : Nat) : Int) == 0) = true := by rw [hce]; rfl
                rw [hb112]
                refine GL.sem (j := 4) (H95.ldA (o := 0) (ty := 25) (m := 32) (sub := by8 (climbV l g z m)) 2 rfl (by kernel_rfl) (sub_whole (by rw [by8_length, climbV_length hg])) (by rw [by8_length, climbV_length hg])) [1, 2, 3, 5, 9, 11, 13, 14, 86, 87] [(1, .int .i64 (i : Int)), (2, .int .i64 (n : Int)), (3, .slice A l.length c), (5, pt p3 0), (9, pt p7 0), (11, pt p24 0), (13, .bool (checkB l r g z m)), (14, pt p77 0), (86, .bool true), (87, .agg (by8 (climbV l g z m)).toArray)] (by kernel_rfl) (by kernel_rfl) rfl ?_
                refine GL.sem (j := 5) (H95.ldA (o := 0) (ty := 24) (m := 32) (sub := by8 (climbR l g i n).1) 4 rfl (by kernel_rfl) (sub_whole (by rw [by8_length, climbR_32 _ _ _ _ hg])) (by rw [by8_length, climbR_32 _ _ _ _ hg])) [1, 2, 3, 5, 9, 11, 13, 86, 87, 88] [(1, .int .i64 (i : Int)), (2, .int .i64 (n : Int)), (3, .slice A l.length c), (5, pt p3 0), (9, pt p7 0), (11, pt p24 0), (13, .bool (checkB l r g z m)), (86, .bool true), (87, .agg (by8 (climbV l g z m)).toArray), (88, .agg (by8 (climbR l g i n).1).toArray)] (by kernel_rfl) (by kernel_rfl) rfl ?_
                refine GL.sem (j := 6) (run_by8_eql (P := Try.prog) (t := 25) (n := 32) (x := (.tmp 87)) (y := (.tmp 88)) (by kernel_rfl) (climbV l g z m) ((climbR l g i n).1) (by rw [climbV_length hg]) (by rw [climbR_32 _ _ _ _ hg]) _) [1, 2, 3, 5, 9, 11, 13, 86, 89] [(1, .int .i64 (i : Int)), (2, .int .i64 (n : Int)), (3, .slice A l.length c), (5, pt p3 0), (9, pt p7 0), (11, pt p24 0), (13, .bool (checkB l r g z m)), (86, .bool true), (89, .bool (decide ((climbV l g z m) = (climbR l g i n).1)))] (by kernel_rfl) (by kernel_rfl) rfl ?_
                refine GL.run (j := 8) 2 [1, 2, 3, 5, 9, 11, 13, 91] [(1, .int .i64 (i : Int)), (2, .int .i64 (n : Int)), (3, .slice A l.length c), (5, pt p3 0), (9, pt p7 0), (11, pt p24 0), (13, .bool (checkB l r g z m)), (91, .bool (decide ((climbV l g z m) = (climbR l g i n).1)))] (by kernel_rfl) rfl ?_
                have hb113 : (decide ((climbV l g z m) = (climbR l g i n).1)) = true := decide_eq_true hcv
                rw [hb113]
                refine GL.run (j := 9) 1 [1, 2, 3, 5, 9, 11, 91, 92] [(1, .int .i64 (i : Int)), (2, .int .i64 (n : Int)), (3, .slice A l.length c), (5, pt p3 0), (9, pt p7 0), (11, pt p24 0), (91, .bool true), (92, .bool (checkB l r g z m))] (by kernel_rfl) rfl ?_
                refine GL.sem (j := 10) (H95.ldA (o := 0) (ty := 25) (m := 32) (sub := by8 (climbV l g z m)) 2 rfl (by kernel_rfl) (sub_whole (by rw [by8_length, climbV_length hg])) (by rw [by8_length, climbV_length hg])) [1, 2, 3, 5, 9, 11, 91, 92, 93] [(1, .int .i64 (i : Int)), (2, .int .i64 (n : Int)), (3, .slice A l.length c), (5, pt p3 0), (9, pt p7 0), (11, pt p24 0), (91, .bool true), (92, .bool (checkB l r g z m)), (93, .agg (by8 (climbV l g z m)).toArray)] (by kernel_rfl) (by kernel_rfl) rfl ?_
                refine GL.sem (j := 11) (H95.ldA (o := 0) (ty := 25) (m := 32) (sub := by8 r) 1 rfl (by kernel_rfl) (sub_whole (by rw [by8_length, hr])) (by rw [by8_length, hr])) [1, 2, 3, 5, 11, 91, 92, 93, 94] [(1, .int .i64 (i : Int)), (2, .int .i64 (n : Int)), (3, .slice A l.length c), (5, pt p3 0), (11, pt p24 0), (91, .bool true), (92, .bool (checkB l r g z m)), (93, .agg (by8 (climbV l g z m)).toArray), (94, .agg (by8 r).toArray)] (by kernel_rfl) (by kernel_rfl) rfl ?_
                refine GL.sem (j := 12) (run_by8_eql (P := Try.prog) (t := 25) (n := 32) (x := (.tmp 93)) (y := (.tmp 94)) (by kernel_rfl) (climbV l g z m) r (by rw [climbV_length hg]) (by rw [hr]) _) [1, 2, 3, 5, 11, 91, 92, 95] [(1, .int .i64 (i : Int)), (2, .int .i64 (n : Int)), (3, .slice A l.length c), (5, pt p3 0), (11, pt p24 0), (91, .bool true), (92, .bool (checkB l r g z m)), (95, .bool (decide ((climbV l g z m) = r)))] (by kernel_rfl) (by kernel_rfl) rfl ?_
                refine GL.run (j := 15) 3 [1, 2, 3, 5, 11, 98] [(1, .int .i64 (i : Int)), (2, .int .i64 (n : Int)), (3, .slice A l.length c), (5, pt p3 0), (11, pt p24 0), (98, .bool ((checkB l r g z m) == (decide ((climbV l g z m) = r))))] (by kernel_rfl) rfl ?_
                have hb114 : ((checkB l r g z m) == (decide ((climbV l g z m) = r))) = true := by rw [hck]; exact beq_self_eq_true _
                rw [hb114]
                refine GL.sem (j := 16) (H95.ldA (o := 0) (ty := 25) (m := 32) (sub := by8 (climbV l g z m)) 2 rfl (by kernel_rfl) (sub_whole (by rw [by8_length, climbV_length hg])) (by rw [by8_length, climbV_length hg])) [1, 2, 3, 5, 98, 99] [(1, .int .i64 (i : Int)), (2, .int .i64 (n : Int)), (3, .slice A l.length c), (5, pt p3 0), (98, .bool true), (99, .agg (by8 (climbV l g z m)).toArray)] (by kernel_rfl) (by kernel_rfl) rfl ?_
                refine GL.sem (j := 17) (H95.ldA (o := 0) (ty := 25) (m := 32) (sub := by8 g) 0 rfl (by kernel_rfl) (sub_whole (by rw [by8_length, hg])) (by rw [by8_length, hg])) [1, 2, 3, 98, 99, 100] [(1, .int .i64 (i : Int)), (2, .int .i64 (n : Int)), (3, .slice A l.length c), (98, .bool true), (99, .agg (by8 (climbV l g z m)).toArray), (100, .agg (by8 g).toArray)] (by kernel_rfl) (by kernel_rfl) rfl ?_
                refine GL.run (j := 20) 3 [98, 99, 100, 101, 102, 103] [(98, .bool true), (99, .agg (by8 (climbV l g z m)).toArray), (100, .agg (by8 g).toArray), (101, .int .i64 (i : Int)), (102, .int .i64 (n : Int)), (103, .slice A l.length c)] (by kernel_rfl) rfl ?_
                refine GL.call (j := 21) (Check_calls2 (climbV l g z m) (by rw [climbV_length hg]) g (by rw [hg]) (i : Int) (n : Int) A c l w93 (hx.hp H95) hok (by omega)) (by kernel_rfl) rfl (fun e_ w115 hR => ?_)
                obtain ⟨rfl, H117⟩ := hR
                have H116 : Hp w [] [.blk p3 (by8 g) 25, .blk p7 (by8 r) 25, .blk p24 (by8 (climbV l g z m)) 25, .row A49 l.length c50 24 32 (by8 (flat8 l)), .blk p77 (by8 (climbR l g i n).1) 24] w115 := H95.callNil H117
                refine ⟨_, rfl, [98, 104], [(98, .bool true), (104, .bool (checkB l (climbV l g z m) g (i : Int) (n : Int)))], by kernel_rfl, ?_⟩
                refine GL.run (j := 23) 2 [10] [(10, .bool (checkB l (climbV l g z m) g (i : Int) (n : Int)))] (by kernel_rfl) rfl ?_
                refine GL.k rfl hK111 (fun _ _ h => h) ?_
                refine G.ret ?_
                intro F_ hF_ hM_
                refine hRet _ _ (bodyPost_1 rfl (RV.tmp rfl) ?_ F_ hF_ hM_)
                have hb118 : (checkB l (climbV l g z m) g (i : Int) (n : Int)) = true := decide_eq_true (by rw [← hzi, ← hmn]; exact ⟨hce, rfl⟩)
                rw [hb118]
                exact ⟨rfl, H116.sub (List.nil_sublist _)⟩
            have st89 : ∀ (wD_ : World) (A49 : Option Addr) (c50 : Nat), Hp w [] [.blk p3 (by8 g) 25, .blk p7 (by8 r) 25, .blk p24 (by8 (climbV l g z m)) 25, .row A49 l.length c50 24 32 (by8 (flat8 l))] wD_ → Xd_ [0, 1, 2, 3, 4, 5, 6, 7, 8] [(1, .int .i64 (i : Int)), (2, .int .i64 (n : Int)), (3, .slice A l.length c), (5, pt p3 0), (9, pt p7 0), (11, pt p24 0), (12, .int .i64 (((climbE l g z m) : Nat) : Int)), (13, .bool (checkB l r g z m)), (70, .agg (by8 (climbR l g i n).1).toArray), (71, .bool ((climbR l g i n).2))] wD_ := by
              intro wD_ A49 c50 HD_
              rw [hXd_]
              have hS119 : Hp w [] [.blk p3 (by8 g) 25, .blk p7 (by8 r) 25, .blk p24 (by8 (climbV l g z m)) 25] wD_ := HD_.sub (List.Sublist.cons_cons _ (List.Sublist.cons_cons _ (List.Sublist.cons_cons _ (List.Sublist.cons _ (List.Sublist.slnil)))))
              refine GP.all1 9 (by kernel_rfl) ?_
              · skip
                have hS120 : Hp w [] [.blk p3 (by8 g) 25, .blk p7 (by8 r) 25, .blk p24 (by8 (climbV l g z m)) 25] wD_ := HD_.sub (List.Sublist.cons_cons _ (List.Sublist.cons_cons _ (List.Sublist.cons_cons _ (List.Sublist.cons _ (List.Sublist.slnil)))))
                obtain ⟨p121, w122, r123, H124⟩ := HD_.alloc (P := Try.prog) 24 (by8 (List.replicate 32 0)) (by kernel_rfl)
                have H124 : Hp w [] [.blk p3 (by8 g) 25, .blk p7 (by8 r) 25, .blk p24 (by8 (climbV l g z m)) 25, .row A49 l.length c50 24 32 (by8 (flat8 l)), .blk p121 (by8 (List.replicate 32 0)) 24] w122 := H124
                have hS125 : Hp w [] [.blk p3 (by8 g) 25, .blk p7 (by8 r) 25, .blk p24 (by8 (climbV l g z m)) 25] w122 := H124.sub (List.Sublist.cons_cons _ (List.Sublist.cons_cons _ (List.Sublist.cons_cons _ (List.Sublist.cons _ (List.Sublist.cons _ (List.Sublist.slnil))))))
                refine GO.made r123 [1, 2, 3, 5, 9, 11, 12, 13, 14, 70, 71] [(1, .int .i64 (i : Int)), (2, .int .i64 (n : Int)), (3, .slice A l.length c), (5, pt p3 0), (9, pt p7 0), (11, pt p24 0), (12, .int .i64 (((climbE l g z m) : Nat) : Int)), (13, .bool (checkB l r g z m)), (14, pt p121 0), (70, .agg (by8 (climbR l g i n).1).toArray), (71, .bool ((climbR l g i n).2))] (by kernel_rfl) (by kernel_rfl) hS125 ?_
                refine GP.perm [0, 1, 2, 3, 4, 5, 6, 7, 8, 9] (by kernel_rfl) rfl ?_
                rw [← hXd_]
                exact st91 _ A49 c50 p121 H124
            have st90 : ∀ (wD_ : World) (A49 : Option Addr) (c50 : Nat) (p65 : Nat), Hp w [] [.blk p3 (by8 g) 25, .blk p7 (by8 r) 25, .blk p24 (by8 (climbV l g z m)) 25, .row A49 l.length c50 24 32 (by8 (flat8 l)), .blk p65 (by8 (List.replicate 32 0)) 24] wD_ → Xd_ [0, 1, 2, 3, 4, 9] [(1, .int .i64 (i : Int)), (2, .int .i64 (n : Int)), (3, .slice A l.length c), (5, pt p3 0), (9, pt p7 0), (11, pt p24 0), (12, .int .i64 (((climbE l g z m) : Nat) : Int)), (13, .bool (checkB l r g z m)), (14, pt p65 0), (64, .agg (by8 g).toArray), (65, .int .i64 (i : Int)), (66, .int .i64 (n : Int)), (68, .slice A49 l.length c50)] wD_ := by
              intro wD_ A49 c50 p65 HD_
              rw [hXd_]
              have hS126 : Hp w [] [.blk p3 (by8 g) 25, .blk p7 (by8 r) 25, .blk p24 (by8 (climbV l g z m)) 25] wD_ := HD_.sub (List.Sublist.cons_cons _ (List.Sublist.cons_cons _ (List.Sublist.cons_cons _ (List.Sublist.cons _ (List.Sublist.cons _ (List.Sublist.slnil))))))
              refine GP.all1 5 (by kernel_rfl) ?_
              · skip
                have hS127 : Hp w [] [.blk p3 (by8 g) 25, .blk p7 (by8 r) 25, .blk p24 (by8 (climbV l g z m)) 25] wD_ := HD_.sub (List.Sublist.cons_cons _ (List.Sublist.cons_cons _ (List.Sublist.cons_cons _ (List.Sublist.cons _ (List.Sublist.cons _ (List.Sublist.slnil))))))
                refine GO.call (RefClimb_calls l.length l rfl g (by rw [hg]) i n A49 c50 wD_ (HD_.rdRowN 3 rfl) hok ((HD_.rowLe 3 rfl).1) (by omega) (by omega)) (by kernel_rfl) (fun e_ w128 hR => ?_)
                obtain ⟨rfl, H130⟩ := hR
                have H129 : Hp w [] [.blk p3 (by8 g) 25, .blk p7 (by8 r) 25, .blk p24 (by8 (climbV l g z m)) 25, .row A49 l.length c50 24 32 (by8 (flat8 l)), .blk p65 (by8 (List.replicate 32 0)) 24] w128 := HD_.callNil H130
                have hS131 : Hp w [] [.blk p3 (by8 g) 25, .blk p7 (by8 r) 25, .blk p24 (by8 (climbV l g z m)) 25] w128 := H129.sub (List.Sublist.cons_cons _ (List.Sublist.cons_cons _ (List.Sublist.cons_cons _ (List.Sublist.cons _ (List.Sublist.cons _ (List.Sublist.slnil))))))
                refine ⟨_, rfl, hS131, [1, 2, 3, 5, 9, 11, 12, 13, 14, 69], [(1, .int .i64 (i : Int)), (2, .int .i64 (n : Int)), (3, .slice A l.length c), (5, pt p3 0), (9, pt p7 0), (11, pt p24 0), (12, .int .i64 (((climbE l g z m) : Nat) : Int)), (13, .bool (checkB l r g z m)), (14, pt p65 0), (69, .tuple #[.agg (by8 (climbR l g i n).1).toArray, .bool ((climbR l g i n).2)])], by kernel_rfl, ?_⟩
                refine GP.run [6, 7, 8] [1, 2, 3, 5, 9, 11, 12, 13, 14, 70, 71] [(1, .int .i64 (i : Int)), (2, .int .i64 (n : Int)), (3, .slice A l.length c), (5, pt p3 0), (9, pt p7 0), (11, pt p24 0), (12, .int .i64 (((climbE l g z m) : Nat) : Int)), (13, .bool (checkB l r g z m)), (14, pt p65 0), (70, .agg (by8 (climbR l g i n).1).toArray), (71, .bool ((climbR l g i n).2))] [0, 1, 2, 3, 4, 9, 5, 6, 7, 8] (by kernel_rfl) rfl hS131 ?_
                refine GP.perm [0, 1, 2, 3, 4, 5, 6, 7, 8, 9] (by kernel_rfl) rfl ?_
                rw [← hXd_]
                exact st91 _ A49 c50 p65 H129
            have st87 : ∀ (wD_ : World) (A49 : Option Addr) (c50 : Nat), Hp w [] [.blk p3 (by8 g) 25, .blk p7 (by8 r) 25, .blk p24 (by8 (climbV l g z m)) 25, .row A49 l.length c50 24 32 (by8 (flat8 l))] wD_ → Xd_ [0, 1, 2, 3, 4] [(1, .int .i64 (i : Int)), (2, .int .i64 (n : Int)), (3, .slice A l.length c), (5, pt p3 0), (9, pt p7 0), (11, pt p24 0), (12, .int .i64 (((climbE l g z m) : Nat) : Int)), (13, .bool (checkB l r g z m)), (64, .agg (by8 g).toArray), (65, .int .i64 (i : Int)), (66, .int .i64 (n : Int)), (68, .slice A49 l.length c50)] wD_ := by
              intro wD_ A49 c50 HD_
              rw [hXd_]
              have hS132 : Hp w [] [.blk p3 (by8 g) 25, .blk p7 (by8 r) 25, .blk p24 (by8 (climbV l g z m)) 25] wD_ := HD_.sub (List.Sublist.cons_cons _ (List.Sublist.cons_cons _ (List.Sublist.cons_cons _ (List.Sublist.cons _ (List.Sublist.slnil)))))
              refine GP.all2 5 9 (by kernel_rfl) ?_ ?_
              · skip
                have hS133 : Hp w [] [.blk p3 (by8 g) 25, .blk p7 (by8 r) 25, .blk p24 (by8 (climbV l g z m)) 25] wD_ := HD_.sub (List.Sublist.cons_cons _ (List.Sublist.cons_cons _ (List.Sublist.cons_cons _ (List.Sublist.cons _ (List.Sublist.slnil)))))
                refine GO.call (RefClimb_calls l.length l rfl g (by rw [hg]) i n A49 c50 wD_ (HD_.rdRowN 3 rfl) hok ((HD_.rowLe 3 rfl).1) (by omega) (by omega)) (by kernel_rfl) (fun e_ w134 hR => ?_)
                obtain ⟨rfl, H136⟩ := hR
                have H135 : Hp w [] [.blk p3 (by8 g) 25, .blk p7 (by8 r) 25, .blk p24 (by8 (climbV l g z m)) 25, .row A49 l.length c50 24 32 (by8 (flat8 l))] w134 := HD_.callNil H136
                have hS137 : Hp w [] [.blk p3 (by8 g) 25, .blk p7 (by8 r) 25, .blk p24 (by8 (climbV l g z m)) 25] w134 := H135.sub (List.Sublist.cons_cons _ (List.Sublist.cons_cons _ (List.Sublist.cons_cons _ (List.Sublist.cons _ (List.Sublist.slnil)))))
                refine ⟨_, rfl, hS137, [1, 2, 3, 5, 9, 11, 12, 13, 69], [(1, .int .i64 (i : Int)), (2, .int .i64 (n : Int)), (3, .slice A l.length c), (5, pt p3 0), (9, pt p7 0), (11, pt p24 0), (12, .int .i64 (((climbE l g z m) : Nat) : Int)), (13, .bool (checkB l r g z m)), (69, .tuple #[.agg (by8 (climbR l g i n).1).toArray, .bool ((climbR l g i n).2)])], by kernel_rfl, ?_⟩
                refine GP.run [6, 7, 8] [1, 2, 3, 5, 9, 11, 12, 13, 70, 71] [(1, .int .i64 (i : Int)), (2, .int .i64 (n : Int)), (3, .slice A l.length c), (5, pt p3 0), (9, pt p7 0), (11, pt p24 0), (12, .int .i64 (((climbE l g z m) : Nat) : Int)), (13, .bool (checkB l r g z m)), (70, .agg (by8 (climbR l g i n).1).toArray), (71, .bool ((climbR l g i n).2))] [0, 1, 2, 3, 4, 5, 6, 7, 8] (by kernel_rfl) rfl hS137 ?_
                refine GP.perm [0, 1, 2, 3, 4, 5, 6, 7, 8] (by kernel_rfl) rfl ?_
                rw [← hXd_]
                exact st89 _ A49 c50 H135
              · skip
                have hS138 : Hp w [] [.blk p3 (by8 g) 25, .blk p7 (by8 r) 25, .blk p24 (by8 (climbV l g z m)) 25] wD_ := HD_.sub (List.Sublist.cons_cons _ (List.Sublist.cons_cons _ (List.Sublist.cons_cons _ (List.Sublist.cons _ (List.Sublist.slnil)))))
                obtain ⟨p139, w140, r141, H142⟩ := HD_.alloc (P := Try.prog) 24 (by8 (List.replicate 32 0)) (by kernel_rfl)
                have H142 : Hp w [] [.blk p3 (by8 g) 25, .blk p7 (by8 r) 25, .blk p24 (by8 (climbV l g z m)) 25, .row A49 l.length c50 24 32 (by8 (flat8 l)), .blk p139 (by8 (List.replicate 32 0)) 24] w140 := H142
                have hS143 : Hp w [] [.blk p3 (by8 g) 25, .blk p7 (by8 r) 25, .blk p24 (by8 (climbV l g z m)) 25] w140 := H142.sub (List.Sublist.cons_cons _ (List.Sublist.cons_cons _ (List.Sublist.cons_cons _ (List.Sublist.cons _ (List.Sublist.cons _ (List.Sublist.slnil))))))
                refine GO.made r141 [1, 2, 3, 5, 9, 11, 12, 13, 14, 64, 65, 66, 68] [(1, .int .i64 (i : Int)), (2, .int .i64 (n : Int)), (3, .slice A l.length c), (5, pt p3 0), (9, pt p7 0), (11, pt p24 0), (12, .int .i64 (((climbE l g z m) : Nat) : Int)), (13, .bool (checkB l r g z m)), (14, pt p139 0), (64, .agg (by8 g).toArray), (65, .int .i64 (i : Int)), (66, .int .i64 (n : Int)), (68, .slice A49 l.length c50)] (by kernel_rfl) (by kernel_rfl) hS143 ?_
                refine GP.perm [0, 1, 2, 3, 4, 9] (by kernel_rfl) rfl ?_
                rw [← hXd_]
                exact st90 _ A49 c50 p139 H142
            have st88 : ∀ (wD_ : World) (p56 : Nat), Hp w [] [.blk p3 (by8 g) 25, .blk p7 (by8 r) 25, .blk p24 (by8 (climbV l g z m)) 25, .blk p56 (by8 (List.replicate 32 0)) 24] wD_ → Xd_ [0, 1, 2, 3, 9] [(1, .int .i64 (i : Int)), (2, .int .i64 (n : Int)), (3, .slice A l.length c), (5, pt p3 0), (9, pt p7 0), (11, pt p24 0), (12, .int .i64 (((climbE l g z m) : Nat) : Int)), (13, .bool (checkB l r g z m)), (14, pt p56 0), (64, .agg (by8 g).toArray), (65, .int .i64 (i : Int)), (66, .int .i64 (n : Int)), (67, .slice A l.length c)] wD_ := by
              intro wD_ p56 HD_
              rw [hXd_]
              have hS144 : Hp w [] [.blk p3 (by8 g) 25, .blk p7 (by8 r) 25, .blk p24 (by8 (climbV l g z m)) 25] wD_ := HD_.sub (List.Sublist.cons_cons _ (List.Sublist.cons_cons _ (List.Sublist.cons_cons _ (List.Sublist.cons _ (List.Sublist.slnil)))))
              refine GP.all1 4 (by kernel_rfl) ?_
              · skip
                have hS145 : Hp w [] [.blk p3 (by8 g) 25, .blk p7 (by8 r) 25, .blk p24 (by8 (climbV l g z m)) 25] wD_ := HD_.sub (List.Sublist.cons_cons _ (List.Sublist.cons_cons _ (List.Sublist.cons_cons _ (List.Sublist.cons _ (List.Sublist.slnil)))))
                refine GO.call (Plain_calls A c l wD_ (hx.hp HD_) hok (by omega) (by omega)) (by kernel_rfl) (fun e_ w148 hR => ?_)
                obtain ⟨A146, c147, rfl, H150⟩ := hR
                have H149 : Hp w [] [.blk p3 (by8 g) 25, .blk p7 (by8 r) 25, .blk p24 (by8 (climbV l g z m)) 25, .blk p56 (by8 (List.replicate 32 0)) 24, .row A146 l.length c147 24 32 (by8 (flat8 l))] w148 := HD_.callNew H150
                have hq151 := (H149.rowLe 4 rfl).1
                have hS152 : Hp w [] [.blk p3 (by8 g) 25, .blk p7 (by8 r) 25, .blk p24 (by8 (climbV l g z m)) 25] w148 := H149.sub (List.Sublist.cons_cons _ (List.Sublist.cons_cons _ (List.Sublist.cons_cons _ (List.Sublist.cons _ (List.Sublist.cons _ (List.Sublist.slnil))))))
                refine ⟨_, rfl, hS152, [1, 2, 3, 5, 9, 11, 12, 13, 14, 64, 65, 66, 68], [(1, .int .i64 (i : Int)), (2, .int .i64 (n : Int)), (3, .slice A l.length c), (5, pt p3 0), (9, pt p7 0), (11, pt p24 0), (12, .int .i64 (((climbE l g z m) : Nat) : Int)), (13, .bool (checkB l r g z m)), (14, pt p56 0), (64, .agg (by8 g).toArray), (65, .int .i64 (i : Int)), (66, .int .i64 (n : Int)), (68, .slice A146 l.length c147)], by kernel_rfl, ?_⟩
                have H153 := (Hp.reorder (L' := [.blk p3 (by8 g) 25, .blk p7 (by8 r) 25, .blk p24 (by8 (climbV l g z m)) 25, .row A146 l.length c147 24 32 (by8 (flat8 l)), .blk p56 (by8 (List.replicate 32 0)) 24]) H149 (List.Perm.cons _ (List.Perm.cons _ (List.Perm.cons _ (List.Perm.trans (List.Perm.swap _ _ _) (List.Perm.refl _))))))
                refine GP.perm [0, 1, 2, 3, 4, 9] (by kernel_rfl) rfl ?_
                rw [← hXd_]
                exact st90 _ A146 c147 p56 H153
            have st86 : ∀ (wD_ : World), Hp w [] [.blk p3 (by8 g) 25, .blk p7 (by8 r) 25, .blk p24 (by8 (climbV l g z m)) 25] wD_ → Xd_ [0, 1, 2, 3] [(1, .int .i64 (i : Int)), (2, .int .i64 (n : Int)), (3, .slice A l.length c), (5, pt p3 0), (9, pt p7 0), (11, pt p24 0), (12, .int .i64 (((climbE l g z m) : Nat) : Int)), (13, .bool (checkB l r g z m)), (64, .agg (by8 g).toArray), (65, .int .i64 (i : Int)), (66, .int .i64 (n : Int)), (67, .slice A l.length c)] wD_ := by
              intro wD_ HD_
              rw [hXd_]
              have hS154 : Hp w [] [.blk p3 (by8 g) 25, .blk p7 (by8 r) 25, .blk p24 (by8 (climbV l g z m)) 25] wD_ := HD_.sub (List.Sublist.cons_cons _ (List.Sublist.cons_cons _ (List.Sublist.cons_cons _ (List.Sublist.slnil))))
              refine GP.all2 4 9 (by kernel_rfl) ?_ ?_
              · skip
                have hS155 : Hp w [] [.blk p3 (by8 g) 25, .blk p7 (by8 r) 25, .blk p24 (by8 (climbV l g z m)) 25] wD_ := HD_.sub (List.Sublist.cons_cons _ (List.Sublist.cons_cons _ (List.Sublist.cons_cons _ (List.Sublist.slnil))))
                refine GO.call (Plain_calls A c l wD_ (hx.hp HD_) hok (by omega) (by omega)) (by kernel_rfl) (fun e_ w158 hR => ?_)
                obtain ⟨A156, c157, rfl, H160⟩ := hR
                have H159 : Hp w [] [.blk p3 (by8 g) 25, .blk p7 (by8 r) 25, .blk p24 (by8 (climbV l g z m)) 25, .row A156 l.length c157 24 32 (by8 (flat8 l))] w158 := HD_.callNew H160
                have hq161 := (H159.rowLe 3 rfl).1
                have hS162 : Hp w [] [.blk p3 (by8 g) 25, .blk p7 (by8 r) 25, .blk p24 (by8 (climbV l g z m)) 25] w158 := H159.sub (List.Sublist.cons_cons _ (List.Sublist.cons_cons _ (List.Sublist.cons_cons _ (List.Sublist.cons _ (List.Sublist.slnil)))))
                refine ⟨_, rfl, hS162, [1, 2, 3, 5, 9, 11, 12, 13, 64, 65, 66, 68], [(1, .int .i64 (i : Int)), (2, .int .i64 (n : Int)), (3, .slice A l.length c), (5, pt p3 0), (9, pt p7 0), (11, pt p24 0), (12, .int .i64 (((climbE l g z m) : Nat) : Int)), (13, .bool (checkB l r g z m)), (64, .agg (by8 g).toArray), (65, .int .i64 (i : Int)), (66, .int .i64 (n : Int)), (68, .slice A156 l.length c157)], by kernel_rfl, ?_⟩
                refine GP.perm [0, 1, 2, 3, 4] (by kernel_rfl) rfl ?_
                rw [← hXd_]
                exact st87 _ A156 c157 H159
              · skip
                have hS163 : Hp w [] [.blk p3 (by8 g) 25, .blk p7 (by8 r) 25, .blk p24 (by8 (climbV l g z m)) 25] wD_ := HD_.sub (List.Sublist.cons_cons _ (List.Sublist.cons_cons _ (List.Sublist.cons_cons _ (List.Sublist.slnil))))
                obtain ⟨p164, w165, r166, H167⟩ := HD_.alloc (P := Try.prog) 24 (by8 (List.replicate 32 0)) (by kernel_rfl)
                have H167 : Hp w [] [.blk p3 (by8 g) 25, .blk p7 (by8 r) 25, .blk p24 (by8 (climbV l g z m)) 25, .blk p164 (by8 (List.replicate 32 0)) 24] w165 := H167
                have hS168 : Hp w [] [.blk p3 (by8 g) 25, .blk p7 (by8 r) 25, .blk p24 (by8 (climbV l g z m)) 25] w165 := H167.sub (List.Sublist.cons_cons _ (List.Sublist.cons_cons _ (List.Sublist.cons_cons _ (List.Sublist.cons _ (List.Sublist.slnil)))))
                refine GO.made r166 [1, 2, 3, 5, 9, 11, 12, 13, 14, 64, 65, 66, 67] [(1, .int .i64 (i : Int)), (2, .int .i64 (n : Int)), (3, .slice A l.length c), (5, pt p3 0), (9, pt p7 0), (11, pt p24 0), (12, .int .i64 (((climbE l g z m) : Nat) : Int)), (13, .bool (checkB l r g z m)), (14, pt p164 0), (64, .agg (by8 g).toArray), (65, .int .i64 (i : Int)), (66, .int .i64 (n : Int)), (67, .slice A l.length c)] (by kernel_rfl) (by kernel_rfl) hS168 ?_
                refine GP.perm [0, 1, 2, 3, 9] (by kernel_rfl) rfl ?_
                rw [← hXd_]
                exact st88 _ p164 H167
            exact st86 _ H46
          · skip
            have hb43f := of_decide_eq_true hb43
            have hce : climbE l g z m = 1 := by unfold climbE; rw [if_neg (fun h => by have := h.2; have := h.1; unfold leafB at this; have := of_decide_eq_true this; omega)]
            refine G.yes rfl ?_
            refine G.seqK fun K169 hK170 => ?_
            refine G.region ?_
            refine GL.run (j := 3) 3 [11, 13, 55] [(11, pt p24 0), (13, .bool (checkB l r g z m)), (55, .bool ((((climbE l g z m) : Nat) : Int) == 1))] (by kernel_rfl) rfl ?_
            have hb171 : ((((climbE l g z m) : Nat) : Int) == 1) = true := by rw [hce]; rfl
            rw [hb171]
            refine GL.sem (j := 4) (H34.ldA (o := 0) (ty := 25) (m := 32) (sub := by8 (climbV l g z m)) 2 rfl (by kernel_rfl) (sub_whole (by rw [by8_length, climbV_length hg])) (by rw [by8_length, climbV_length hg])) [13, 55, 56] [(13, .bool (checkB l r g z m)), (55, .bool true), (56, .agg (by8 (climbV l g z m)).toArray)] (by kernel_rfl) (by kernel_rfl) rfl ?_
            refine GL.call (j := 5) (Zero_calls (climbV l g z m) (by rw [climbV_length hg]) w33) (by kernel_rfl) rfl (fun e_ w172 hR => ?_)
            obtain ⟨rfl, H174⟩ := hR
            have H173 : Hp w [] [.blk p3 (by8 g) 25, .blk p7 (by8 r) 25, .blk p24 (by8 (climbV l g z m)) 25] w172 := H34.callNil H174
            refine ⟨_, rfl, [13, 55, 57], [(13, .bool (checkB l r g z m)), (55, .bool true), (57, .bool (decide ((climbV l g z m) = (List.replicate 32 0))))], by kernel_rfl, ?_⟩
            refine GL.run (j := 7) 2 [13, 59] [(13, .bool (checkB l r g z m)), (59, .bool (decide ((climbV l g z m) = (List.replicate 32 0))))] (by kernel_rfl) rfl ?_
            have hb175 : (decide ((climbV l g z m) = (List.replicate 32 0))) = true := decide_eq_true (by unfold climbV; rw [hce, if_neg (by decide)])
            rw [hb175]
            refine GL.run (j := 11) 4 [10] [(10, .bool (!(checkB l r g z m)))] (by kernel_rfl) rfl ?_
            refine GL.k rfl hK170 (fun _ _ h => h) ?_
            refine G.ret ?_
            intro F_ hF_ hM_
            refine hRet _ _ (bodyPost_1 rfl (RV.tmp rfl) ?_ F_ hF_ hM_)
            have hb176 : (!(checkB l r g z m)) = true := by rw [show (checkB l r g z m) = false from decide_eq_false (fun h => by omega)]; rfl
            rw [hb176]
            exact ⟨rfl, H173.sub (List.nil_sublist _)⟩
        · skip
          have hb42f := of_decide_eq_true hb42
          have hce : climbE l g z m = 1 := by unfold climbE; rw [if_neg (fun h => by have := h.2; have := h.1; unfold leafB at this; have := of_decide_eq_true this; omega)]
          refine GL.run (j := 15) 4 [1, 2, 3, 5, 9, 11, 12, 13, 52] [(1, .int .i64 z), (2, .int .i64 m), (3, .slice A l.length c), (5, pt p3 0), (9, pt p7 0), (11, pt p24 0), (12, .int .i64 (((climbE l g z m) : Nat) : Int)), (13, .bool (checkB l r g z m)), (52, .bool true)] (by kernel_rfl) rfl ?_
          refine GL.k rfl hK39 (fun _ _ h => h) ?_
          refine G.yes rfl ?_
          refine G.seqK fun K177 hK178 => ?_
          refine G.region ?_
          refine GL.run (j := 3) 3 [11, 13, 55] [(11, pt p24 0), (13, .bool (checkB l r g z m)), (55, .bool ((((climbE l g z m) : Nat) : Int) == 1))] (by kernel_rfl) rfl ?_
          have hb179 : ((((climbE l g z m) : Nat) : Int) == 1) = true := by rw [hce]; rfl
          rw [hb179]
          refine GL.sem (j := 4) (H34.ldA (o := 0) (ty := 25) (m := 32) (sub := by8 (climbV l g z m)) 2 rfl (by kernel_rfl) (sub_whole (by rw [by8_length, climbV_length hg])) (by rw [by8_length, climbV_length hg])) [13, 55, 56] [(13, .bool (checkB l r g z m)), (55, .bool true), (56, .agg (by8 (climbV l g z m)).toArray)] (by kernel_rfl) (by kernel_rfl) rfl ?_
          refine GL.call (j := 5) (Zero_calls (climbV l g z m) (by rw [climbV_length hg]) w33) (by kernel_rfl) rfl (fun e_ w180 hR => ?_)
          obtain ⟨rfl, H182⟩ := hR
          have H181 : Hp w [] [.blk p3 (by8 g) 25, .blk p7 (by8 r) 25, .blk p24 (by8 (climbV l g z m)) 25] w180 := H34.callNil H182
          refine ⟨_, rfl, [13, 55, 57], [(13, .bool (checkB l r g z m)), (55, .bool true), (57, .bool (decide ((climbV l g z m) = (List.replicate 32 0))))], by kernel_rfl, ?_⟩
          refine GL.run (j := 7) 2 [13, 59] [(13, .bool (checkB l r g z m)), (59, .bool (decide ((climbV l g z m) = (List.replicate 32 0))))] (by kernel_rfl) rfl ?_
          have hb183 : (decide ((climbV l g z m) = (List.replicate 32 0))) = true := decide_eq_true (by unfold climbV; rw [hce, if_neg (by decide)])
          rw [hb183]
          refine GL.run (j := 11) 4 [10] [(10, .bool (!(checkB l r g z m)))] (by kernel_rfl) rfl ?_
          refine GL.k rfl hK178 (fun _ _ h => h) ?_
          refine G.ret ?_
          intro F_ hF_ hM_
          refine hRet _ _ (bodyPost_1 rfl (RV.tmp rfl) ?_ F_ hF_ hM_)
          have hb184 : (!(checkB l r g z m)) = true := by rw [show (checkB l r g z m) = false from decide_eq_false (fun h => by omega)]; rfl
          rw [hb184]
          exact ⟨rfl, H181.sub (List.nil_sublist _)⟩
      · skip
        have hb41f := of_decide_eq_true hb41
        have hce : climbE l g z m = 1 := by unfold climbE; rw [if_neg (fun h => by have := h.2; have := h.1; unfold leafB at this; have := of_decide_eq_true this; omega)]
        refine GL.run (j := 15) 8 [1, 2, 3, 5, 9, 11, 12, 13, 52] [(1, .int .i64 z), (2, .int .i64 m), (3, .slice A l.length c), (5, pt p3 0), (9, pt p7 0), (11, pt p24 0), (12, .int .i64 (((climbE l g z m) : Nat) : Int)), (13, .bool (checkB l r g z m)), (52, .bool true)] (by kernel_rfl) rfl ?_
        refine GL.k rfl hK39 (fun _ _ h => h) ?_
        refine G.yes rfl ?_
        refine G.seqK fun K185 hK186 => ?_
        refine G.region ?_
        refine GL.run (j := 3) 3 [11, 13, 55] [(11, pt p24 0), (13, .bool (checkB l r g z m)), (55, .bool ((((climbE l g z m) : Nat) : Int) == 1))] (by kernel_rfl) rfl ?_
        have hb187 : ((((climbE l g z m) : Nat) : Int) == 1) = true := by rw [hce]; rfl
        rw [hb187]
        refine GL.sem (j := 4) (H34.ldA (o := 0) (ty := 25) (m := 32) (sub := by8 (climbV l g z m)) 2 rfl (by kernel_rfl) (sub_whole (by rw [by8_length, climbV_length hg])) (by rw [by8_length, climbV_length hg])) [13, 55, 56] [(13, .bool (checkB l r g z m)), (55, .bool true), (56, .agg (by8 (climbV l g z m)).toArray)] (by kernel_rfl) (by kernel_rfl) rfl ?_
        refine GL.call (j := 5) (Zero_calls (climbV l g z m) (by rw [climbV_length hg]) w33) (by kernel_rfl) rfl (fun e_ w188 hR => ?_)
        obtain ⟨rfl, H190⟩ := hR
        have H189 : Hp w [] [.blk p3 (by8 g) 25, .blk p7 (by8 r) 25, .blk p24 (by8 (climbV l g z m)) 25] w188 := H34.callNil H190
        refine ⟨_, rfl, [13, 55, 57], [(13, .bool (checkB l r g z m)), (55, .bool true), (57, .bool (decide ((climbV l g z m) = (List.replicate 32 0))))], by kernel_rfl, ?_⟩
        refine GL.run (j := 7) 2 [13, 59] [(13, .bool (checkB l r g z m)), (59, .bool (decide ((climbV l g z m) = (List.replicate 32 0))))] (by kernel_rfl) rfl ?_
        have hb191 : (decide ((climbV l g z m) = (List.replicate 32 0))) = true := decide_eq_true (by unfold climbV; rw [hce, if_neg (by decide)])
        rw [hb191]
        refine GL.run (j := 11) 4 [10] [(10, .bool (!(checkB l r g z m)))] (by kernel_rfl) rfl ?_
        refine GL.k rfl hK186 (fun _ _ h => h) ?_
        refine G.ret ?_
        intro F_ hF_ hM_
        refine hRet _ _ (bodyPost_1 rfl (RV.tmp rfl) ?_ F_ hF_ hM_)
        have hb192 : (!(checkB l r g z m)) = true := by rw [show (checkB l r g z m) = false from decide_eq_false (fun h => by omega)]; rfl
        rw [hb192]
        exact ⟨rfl, H189.sub (List.nil_sublist _)⟩
    · skip
      have hb40f := of_decide_eq_true hb40
      have hce : climbE l g z m = 1 := by unfold climbE; rw [if_neg (fun h => by have := h.2; have := h.1; unfold leafB at this; have := of_decide_eq_true this; omega)]
      refine GL.run (j := 15) 12 [1, 2, 3, 5, 9, 11, 12, 13, 52] [(1, .int .i64 z), (2, .int .i64 m), (3, .slice A l.length c), (5, pt p3 0), (9, pt p7 0), (11, pt p24 0), (12, .int .i64 (((climbE l g z m) : Nat) : Int)), (13, .bool (checkB l r g z m)), (52, .bool true)] (by kernel_rfl) rfl ?_
      refine GL.k rfl hK39 (fun _ _ h => h) ?_
      refine G.yes rfl ?_
      refine G.seqK fun K193 hK194 => ?_
      refine G.region ?_
      refine GL.run (j := 3) 3 [11, 13, 55] [(11, pt p24 0), (13, .bool (checkB l r g z m)), (55, .bool ((((climbE l g z m) : Nat) : Int) == 1))] (by kernel_rfl) rfl ?_
      have hb195 : ((((climbE l g z m) : Nat) : Int) == 1) = true := by rw [hce]; rfl
      rw [hb195]
      refine GL.sem (j := 4) (H34.ldA (o := 0) (ty := 25) (m := 32) (sub := by8 (climbV l g z m)) 2 rfl (by kernel_rfl) (sub_whole (by rw [by8_length, climbV_length hg])) (by rw [by8_length, climbV_length hg])) [13, 55, 56] [(13, .bool (checkB l r g z m)), (55, .bool true), (56, .agg (by8 (climbV l g z m)).toArray)] (by kernel_rfl) (by kernel_rfl) rfl ?_
      refine GL.call (j := 5) (Zero_calls (climbV l g z m) (by rw [climbV_length hg]) w33) (by kernel_rfl) rfl (fun e_ w196 hR => ?_)
      obtain ⟨rfl, H198⟩ := hR
      have H197 : Hp w [] [.blk p3 (by8 g) 25, .blk p7 (by8 r) 25, .blk p24 (by8 (climbV l g z m)) 25] w196 := H34.callNil H198
      refine ⟨_, rfl, [13, 55, 57], [(13, .bool (checkB l r g z m)), (55, .bool true), (57, .bool (decide ((climbV l g z m) = (List.replicate 32 0))))], by kernel_rfl, ?_⟩
      refine GL.run (j := 7) 2 [13, 59] [(13, .bool (checkB l r g z m)), (59, .bool (decide ((climbV l g z m) = (List.replicate 32 0))))] (by kernel_rfl) rfl ?_
      have hb199 : (decide ((climbV l g z m) = (List.replicate 32 0))) = true := decide_eq_true (by unfold climbV; rw [hce, if_neg (by decide)])
      rw [hb199]
      refine GL.run (j := 11) 4 [10] [(10, .bool (!(checkB l r g z m)))] (by kernel_rfl) rfl ?_
      refine GL.k rfl hK194 (fun _ _ h => h) ?_
      refine G.ret ?_
      intro F_ hF_ hM_
      refine hRet _ _ (bodyPost_1 rfl (RV.tmp rfl) ?_ F_ hF_ hM_)
      have hb200 : (!(checkB l r g z m)) = true := by rw [show (checkB l r g z m) = false from decide_eq_false (fun h => by omega)]; rfl
      rw [hb200]
      exact ⟨rfl, H197.sub (List.nil_sublist _)⟩
  · skip
    have hb18f := of_decide_eq_true hb18
    refine G.yes rfl ?_
    refine G.seqK fun K201 hK202 => ?_
    refine G.region ?_
    refine GL.call (j := 1) (lives_calls w15) (by kernel_rfl) rfl (fun e_ w203 hR => ?_)
    obtain ⟨rfl, H205⟩ := hR
    have H204 : Hp w [] [.blk p3 (by8 g) 25, .blk p7 (by8 r) 25] w203 := H16.callNil H205
    refine ⟨_, rfl, [23], [(23, .bool true)], by kernel_rfl, ?_⟩
    refine GL.run (j := 2) 1 [10] [(10, .bool true)] (by kernel_rfl) rfl ?_
    refine GL.k rfl hK202 (fun _ _ h => h) ?_
    refine G.ret ?_
    intro F_ hF_ hM_
    refine hRet _ _ (bodyPost_1 rfl (RV.tmp rfl) ?_ F_ hF_ hM_)
    exact ⟨rfl, H204.sub (List.nil_sublist _)⟩
end Go.Proofs.Ytgmggjnoegelgaa
namespace Go.Proofs.Ytgmggjnoegelgaa
open Go.ChangeShapes Go.WideShapes Go.ChangeAt Go.RowKit
open Go.ChangeMaps (open_string shut_string)
set_option linter.unusedVariables false
theorem merkleClimbs_own : ownKnob Try.prog.godebug = none := by kernel_rfl
theorem merkleClimbs_laidOut : laidOutB Try.prog = true := by kernel_rfl
set_option maxRecDepth 100000 in
theorem merkleClimbs_lifted (os : Os) (started : os.Started) (H : Type) (enc : TypeId × Value → H) :
    ReturnsInHanded {} Try.checked os 5 .any (Rows.merkleClimbsSpec.pre6 enc Try.prog Try.f5 Rows.merkleClimbsRow.domain false) (Rows.merkleClimbsSpec.post enc Try.prog Try.f5 false true false false) := by
  refine returnsInHanded_of_change (C := Try.checked) merkleClimbs_own started (by kernel_rfl) Try.func5
    (ChangeSpec.witness6 (enc := enc) (C := Try.checked) false ⟨#[], #[.agg #[.int .u8 0, .int .u8 0, .int .u8 0, .int .u8 0, .int .u8 0, .int .u8 0, .int .u8 0, .int .u8 0, .int .u8 0, .int .u8 0, .int .u8 0, .int .u8 0, .int .u8 0, .int .u8 0, .int .u8 0, .int .u8 0, .int .u8 0, .int .u8 0, .int .u8 0, .int .u8 0, .int .u8 0, .int .u8 0, .int .u8 0, .int .u8 0, .int .u8 0, .int .u8 0, .int .u8 0, .int .u8 0, .int .u8 0, .int .u8 0, .int .u8 0, .int .u8 0], .int .i64 0, .int .i64 0, .slice none 0 0, .agg #[.int .u8 0, .int .u8 0, .int .u8 0, .int .u8 0, .int .u8 0, .int .u8 0, .int .u8 0, .int .u8 0, .int .u8 0, .int .u8 0, .int .u8 0, .int .u8 0, .int .u8 0, .int .u8 0, .int .u8 0, .int .u8 0, .int .u8 0, .int .u8 0, .int .u8 0, .int .u8 0, .int .u8 0, .int .u8 0, .int .u8 0, .int .u8 0, .int .u8 0, .int .u8 0, .int .u8 0, .int .u8 0, .int .u8 0, .int .u8 0, .int .u8 0, .int .u8 0]], []⟩ 12 (by kernel_rfl) (by kernel_rfl) (by kernel_rfl) (by kernel_rfl)) ?_
  intro W base args ds gs before hval0 hW hcnd _
  have hval : ∀ (j : Nat) t v, Try.f5.params[j]? = some t → args[j]? = some v → Value.okWide Try.prog W .any base t v := hval0
  have hW' := hW
  obtain ⟨p, q, hA0, hV, rfl, hfz, hnd⟩ := hW
  have hA : DataW.TrodAll enc Try.prog W 0 (fun _ => true) true Try.f5.params.toList args.toList ds p := hA0
  rw [Try.params5] at hA hval
  obtain ⟨v0, vs0, d0, ds0, p0, q0, hargs, rfl, rfl, h0, r0⟩ := trodAll_cons hA
  obtain ⟨v1, vs1, d1, ds1, p1, q1, rfl, rfl, rfl, h1, r1⟩ := trodAll_cons r0
  obtain ⟨v2, vs2, d2, ds2, p2, q2, rfl, rfl, rfl, h2, r2⟩ := trodAll_cons r1
  obtain ⟨v3, vs3, d3, ds3, p3, q3, rfl, rfl, rfl, h3, r3⟩ := trodAll_cons r2
  obtain ⟨v4, vs4, d4, ds4, p4, q4, rfl, rfl, rfl, h4, r4⟩ := trodAll_cons r3
  obtain ⟨rfl, rfl, rfl⟩ := trodAll_nil r4
  obtain rfl : args = #[v0, v1, v2, v3, v4] := by cases args; simp_all
  obtain ⟨rfl, rfl⟩ := trodVars_none hV
  have k0 := h0
  have lt0 : ∀ x ∈ p0, x.block < W.heap.size := by obtain ⟨m, hm⟩ := k0; exact DataW.trod_lt m _ _ _ hm
  have k1 := h1
  have lt1 : ∀ x ∈ p1, x.block < W.heap.size := by obtain ⟨m, hm⟩ := k1; exact DataW.trod_lt m _ _ _ hm
  have k2 := h2
  have lt2 : ∀ x ∈ p2, x.block < W.heap.size := by obtain ⟨m, hm⟩ := k2; exact DataW.trod_lt m _ _ _ hm
  have k3 := h3
  have lt3 : ∀ x ∈ p3, x.block < W.heap.size := by obtain ⟨m, hm⟩ := k3; exact DataW.trod_lt m _ _ _ hm
  have k4 := h4
  have lt4 : ∀ x ∈ p4, x.block < W.heap.size := by obtain ⟨m, hm⟩ := k4; exact DataW.trod_lt m _ _ _ hm
  obtain ⟨cs0, rfl, hl0⟩ := open_agg (by kernel_rfl) (show Try.prog.cellsOf 25 = 32 by kernel_rfl) (hval 0 25 _ rfl rfl)
  obtain ⟨fu0, hf0⟩ := h0
  have lv0 := open_leaves 1 (by rw [List.toList_toArray] at *; exact hl0.trans (show Try.prog.cellsOf 25 = 32 by kernel_rfl).symm) (by kernel_rfl) hf0 (ls := (List.range 32).map fun i => (i, 5)) (by kernel_rfl)
  obtain ⟨f0, rfl⟩ := bytes_of 32 hl0 (fun i hi => (lv0 (i, 5) (by simpa using hi)).u8 Try.underlying5)
  rw [show (List.range 32).map (fun i => Value.int .u8 ((f0 i).toNat : Int)) = [.int .u8 ((f0 0).toNat : Int), .int .u8 ((f0 1).toNat : Int), .int .u8 ((f0 2).toNat : Int), .int .u8 ((f0 3).toNat : Int), .int .u8 ((f0 4).toNat : Int), .int .u8 ((f0 5).toNat : Int), .int .u8 ((f0 6).toNat : Int), .int .u8 ((f0 7).toNat : Int), .int .u8 ((f0 8).toNat : Int), .int .u8 ((f0 9).toNat : Int), .int .u8 ((f0 10).toNat : Int), .int .u8 ((f0 11).toNat : Int), .int .u8 ((f0 12).toNat : Int), .int .u8 ((f0 13).toNat : Int), .int .u8 ((f0 14).toNat : Int), .int .u8 ((f0 15).toNat : Int), .int .u8 ((f0 16).toNat : Int), .int .u8 ((f0 17).toNat : Int), .int .u8 ((f0 18).toNat : Int), .int .u8 ((f0 19).toNat : Int), .int .u8 ((f0 20).toNat : Int), .int .u8 ((f0 21).toNat : Int), .int .u8 ((f0 22).toNat : Int), .int .u8 ((f0 23).toNat : Int), .int .u8 ((f0 24).toNat : Int), .int .u8 ((f0 25).toNat : Int), .int .u8 ((f0 26).toNat : Int), .int .u8 ((f0 27).toNat : Int), .int .u8 ((f0 28).toNat : Int), .int .u8 ((f0 29).toNat : Int), .int .u8 ((f0 30).toNat : Int), .int .u8 ((f0 31).toNat : Int)] from rfl]
  obtain ⟨n1, rfl, wf1⟩ := open_int' Try.underlying3 (hval 1 3 _ rfl rfl) h1
  obtain ⟨n2, rfl, wf2⟩ := open_int' Try.underlying3 (hval 2 3 _ rfl rfl) h2
  obtain ⟨a3, len3, cap3, rfl⟩ := okWide_slice Try.underlying22 (hval 3 22 _ rfl rfl)
  obtain ⟨fu3, hfz3⟩ := h3
  obtain ⟨A3, l3, c3, hcs3, rd3, ok3, hnc3, hcm3⟩ := open_hashes Try.underlying22 (by kernel_rfl) (by kernel_rfl) (by kernel_rfl) Try.underlying5 hfz3
  simp [Value.cells] at hcs3
  obtain ⟨rfl, rfl, rfl⟩ := hcs3
  obtain ⟨cs4, rfl, hl4⟩ := open_agg (by kernel_rfl) (show Try.prog.cellsOf 25 = 32 by kernel_rfl) (hval 4 25 _ rfl rfl)
  obtain ⟨fu4, hf4⟩ := h4
  have lv4 := open_leaves 1 (by rw [List.toList_toArray] at *; exact hl4.trans (show Try.prog.cellsOf 25 = 32 by kernel_rfl).symm) (by kernel_rfl) hf4 (ls := (List.range 32).map fun i => (i, 5)) (by kernel_rfl)
  obtain ⟨f4, rfl⟩ := bytes_of 32 hl4 (fun i hi => (lv4 (i, 5) (by simpa using hi)).u8 Try.underlying5)
  rw [show (List.range 32).map (fun i => Value.int .u8 ((f4 i).toNat : Int)) = [.int .u8 ((f4 0).toNat : Int), .int .u8 ((f4 1).toNat : Int), .int .u8 ((f4 2).toNat : Int), .int .u8 ((f4 3).toNat : Int), .int .u8 ((f4 4).toNat : Int), .int .u8 ((f4 5).toNat : Int), .int .u8 ((f4 6).toNat : Int), .int .u8 ((f4 7).toNat : Int), .int .u8 ((f4 8).toNat : Int), .int .u8 ((f4 9).toNat : Int), .int .u8 ((f4 10).toNat : Int), .int .u8 ((f4 11).toNat : Int), .int .u8 ((f4 12).toNat : Int), .int .u8 ((f4 13).toNat : Int), .int .u8 ((f4 14).toNat : Int), .int .u8 ((f4 15).toNat : Int), .int .u8 ((f4 16).toNat : Int), .int .u8 ((f4 17).toNat : Int), .int .u8 ((f4 18).toNat : Int), .int .u8 ((f4 19).toNat : Int), .int .u8 ((f4 20).toNat : Int), .int .u8 ((f4 21).toNat : Int), .int .u8 ((f4 22).toNat : Int), .int .u8 ((f4 23).toNat : Int), .int .u8 ((f4 24).toNat : Int), .int .u8 ((f4 25).toNat : Int), .int .u8 ((f4 26).toNat : Int), .int .u8 ((f4 27).toNat : Int), .int .u8 ((f4 28).toNat : Int), .int .u8 ((f4 29).toNat : Int), .int .u8 ((f4 30).toNat : Int), .int .u8 ((f4 31).toNat : Int)] from rfl]
  clear hA0 hval0
  refine (MerkleClimbs_calls ((List.range 32).map f0) (by simp) n1 n2 a3 cap3 l3 ((List.range 32).map f4) (by simp) W rd3 ok3 hnc3).mono fun e W' ⟨he, hh⟩ => ?_
  have bel := hh.below
  subst he
  exact ⟨_, rfl, _, _, _, [], _, [], hW', trodAll_mk1 (shut_bool Try.underlying4 _), (trodAll_cons_mk (Below.trod merkleClimbs_laidOut (by kernel_rfl) (of_decide_eq_true (by kernel_rfl)) k0 bel lt0) (trodAll_cons_mk (Below.trod merkleClimbs_laidOut (by kernel_rfl) (of_decide_eq_true (by kernel_rfl)) k1 bel lt1) (trodAll_cons_mk (Below.trod merkleClimbs_laidOut (by kernel_rfl) (of_decide_eq_true (by kernel_rfl)) k2 bel lt2) (trodAll_cons_mk (Below.trod merkleClimbs_laidOut (by kernel_rfl) (of_decide_eq_true (by kernel_rfl)) k3 bel lt3) (trodAll_cons_mk (Below.trod merkleClimbs_laidOut (by kernel_rfl) (of_decide_eq_true (by kernel_rfl)) k4 bel lt4) trodAll_mk0))))), rfl, bel.frame _, fun h => by cases h⟩
theorem merkleClimbs_over : Rows.merkleClimbsRow.holds Try.pinned (OpenSpec.ofChange Rows.merkleClimbsSpec) :=
  OpenClaim.holds_of_wide 5 Try.f5 rfl rfl rfl rfl rfl rfl rfl ⟨rfl, rfl, rfl, rfl, rfl⟩ rfl rfl rfl rfl rfl (by kernel_rfl) Try.func5 (by kernel_rfl)
    (of_decide_eq_true (by kernel_rfl)) (by unfold Func.isWrapper; first | (rw [if_pos (by decide +kernel)]; kernel_rfl) | (rw [if_neg (by decide +kernel)]; exact ⟨rfl, rfl⟩))
    (fun os started H enc _ => merkleClimbs_lifted os started H enc)
theorem merkleClimbs_proved : Rows.MerkleClimbsSaid := merkleClimbs_over
end Go.Proofs.Ytgmggjnoegelgaa
