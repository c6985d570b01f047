/- Rows of hashes: the document's; what the statements use. -/
import Derived.Test.YtgmggjnoegelgaaMkB
import Derived.Test.YtgmggjnoegelgaaShaE
namespace Go.Proofs.Ytgmggjnoegelgaa
open Go.RowKit
theorem cntH_le (n : Nat) : cntH n ≤ n := by
  induction n using Nat.strongRecOn with
  | _ n ih =>
    by_cases h : n ≤ 1
    · rw [cntH_one h]; omega
    · have := ih ((n + 1) / 2) (by omega)
      rw [cntH_step (by omega)]
      omega
def rowsN (n : Nat) : Nat := if leafB (n : Int) = true then cntH n else 0
theorem Rows_calls (n : Nat) (w : World) : Calls Try.prog 11 #[.int .i64 (n : Int)] w fun e w' => e = .returned (.int .i64 ((rowsN n : Nat) : Int)) ∧ Hp w [] [] w' := by
  refine calls_G (args := [.int .i64 (n : Int)]) Try.func11 rfl Try.ntmps11 rfl ?_
  intro Q0 hRet hNor hPan
  have H := Hp.start w
  have H : Hp w [] [] w := H
  refine G.seqK fun K1 hK2 => ?_
  refine G.region ?_
  refine GL.run (j := 1) 1 [0] [(0, .int .i64 (n : Int))] (by kernel_rfl) rfl ?_
  refine GL.k rfl hK2 (fun _ _ h => h) ?_
  refine G.seqK fun K3 hK4 => ?_
  refine G.seqK fun K5 hK6 => ?_
  refine G.region ?_
  refine GL.run (j := 1) 1 [0, 4] [(0, .int .i64 (n : Int)), (4, .int .i64 (n : Int))] (by kernel_rfl) rfl ?_
  refine GL.call (j := 2) (Leaves_calls (n : Int) w) (by kernel_rfl) rfl (fun e_ w7 hR => ?_)
  obtain ⟨rfl, H9⟩ := hR
  have H8 : Hp w [] [] w7 := H.callNil H9
  refine ⟨_, rfl, [0, 5], [(0, .int .i64 (n : Int)), (5, .bool (leafB (n : Int)))], by kernel_rfl, ?_⟩
  refine GL.run (j := 3) 1 [0, 6] [(0, .int .i64 (n : Int)), (6, .bool (!(leafB (n : Int))))] (by kernel_rfl) rfl ?_
  refine GL.k rfl hK6 (fun _ _ h => h) ?_
  cases hb10 : (leafB (n : Int))
  · skip
    have hlb : leafB (n : Int) = false := hb10
    refine G.yes rfl ?_
    refine G.seqK fun K11 hK12 => ?_
    refine G.region ?_
    refine GL.run (j := 1) 1 [2] [(2, .int .i64 0)] (by kernel_rfl) rfl ?_
    refine GL.k rfl hK12 (fun _ _ h => h) ?_
    refine G.ret ?_
    intro F_ hF_ hM_
    refine hRet _ _ (bodyPost_1 rfl (RV.tmp rfl) ?_ F_ hF_ hM_)
    have e0 : rowsN n = 0 := by unfold rowsN; rw [hlb, if_neg (by decide)]
    rw [e0]
    exact ⟨rfl, H8.sub (List.nil_sublist _)⟩
  · skip
    have hlb : leafB (n : Int) = true := hb10
    have hlf : 1 ≤ n ∧ n ≤ 65536 := by have h_ := of_decide_eq_true (show leafB (n : Int) = true from hb10); omega
    refine G.no rfl ?_
    refine G.skipK hK4 (fun _ _ h => h) ?_
    refine G.seqK fun K13 hK14 => ?_
    refine G.region ?_
    refine GL.run (j := 1) 1 [0, 3] [(0, .int .i64 (n : Int)), (3, .int .i64 0)] (by kernel_rfl) rfl ?_
    refine GL.k rfl hK14 (fun _ _ h => h) ?_
    refine G.seqK fun K15 hK16 => ?_
    refine G.block ?_
    refine G.fit [0, 3] (M' := [(0, .int .i64 (n : Int)), (3, .int .i64 0)]) (by kernel_rfl) ?_
    refine G.loop (X := Nat × Nat) (fun ⟨m, r⟩ => [(0, .int .i64 (m : Int)), (3, .int .i64 (r : Int))]) (fun ⟨m, r⟩ w_ => (r + cntH m = cntH n ∧ m ≤ 65536 ∧ 0 < m) ∧ Hp w [] [] w_) (fun ⟨m, r⟩ => m) ⟨n, 0⟩ [0, 3] (by kernel_rfl) ⟨⟨Nat.zero_add _, by omega, by omega⟩, H8⟩ ?_
    rintro ⟨m, r⟩ w17 ⟨hi18, H19⟩
    refine G.eq (M' := [(0, .int .i64 (m : Int)), (3, .int .i64 (r : Int))]) rfl ?_
    have H19 : Hp w [] [] w17 := H19
    obtain ⟨hcnt, hm16, hm0⟩ := hi18
    have hcl := cntH_le n
    refine G.seqK fun K20 hK21 => ?_
    refine G.seqK fun K22 hK23 => ?_
    refine G.region ?_
    refine GL.run (j := 2) 2 [0, 3, 8] [(0, .int .i64 (m : Int)), (3, .int .i64 (r : Int)), (8, .bool (decide (1 < (m : Int))))] (by kernel_rfl) rfl ?_
    refine GL.k rfl hK23 (fun _ _ h => h) ?_
    cases hb24 : (decide (1 < (m : Int)))
    · skip
      have hb24f := of_decide_eq_false hb24
      refine G.no rfl ?_
      refine G.exitK hK16 (fun _ _ h => h) ?_
      refine G.seqK fun K25 hK26 => ?_
      refine G.region ?_
      refine GL.run (j := 2) 2 [2] [(2, .int .i64 (r : Int))] (by kernel_rfl) rfl ?_
      refine GL.k rfl hK26 (fun _ _ h => h) ?_
      refine G.ret ?_
      intro F_ hF_ hM_
      refine hRet _ _ (bodyPost_1 rfl (RV.tmp rfl) ?_ F_ hF_ hM_)
      have e0 : rowsN n = r := by unfold rowsN; rw [hlb, if_pos rfl, ← hcnt, cntH_one (by omega), Nat.add_zero]
      rw [e0]
      exact ⟨rfl, H19.sub (List.nil_sublist _)⟩
    · skip
      have hb24f := of_decide_eq_true hb24
      refine G.yes rfl ?_
      refine G.skipK hK21 (fun _ _ h => h) ?_
      refine G.seqK fun K27 hK28 => ?_
      refine G.block ?_
      refine G.region ?_
      refine GL.run (j := 3) 3 [0, 3] [(0, .int .i64 (m : Int)), (3, .int .i64 (IntKind.i64.wrap ((r : Int) + 1)))] (by kernel_rfl) rfl ?_
      have e29 : (IntKind.i64.wrap ((r : Int) + 1)) = ((r + 1 : Nat) : Int) := by rw [in_i64 (by omega)]; omega
      refine GL.eq (M' := [(0, .int .i64 (m : Int)), (3, .int .i64 ((r + 1 : Nat) : Int))]) (by rw [e29]) ?_
      clear e29
      refine GL.k rfl hK28 (fun _ _ h => h) ?_
      refine G.region ?_
      refine GL.run (j := 4) 4 [0, 3] [(0, .int .i64 (IntKind.i64.wrap (Int.tdiv (IntKind.i64.wrap ((m : Int) + 1)) 2))), (3, .int .i64 ((r + 1 : Nat) : Int))] (by kernel_rfl) rfl ?_
      have e30 : (IntKind.i64.wrap ((m : Int) + 1)) = ((m + 1 : Nat) : Int) := by rw [in_i64 (by omega)]; omega
      have e31 : (IntKind.i64.wrap (Int.tdiv ((m + 1 : Nat) : Int) 2)) = ((((m + 1) / 2) : Nat) : Int) := i_quo (a := (m + 1)) 2 (by omega)
      refine GL.eq (M' := [(0, .int .i64 ((((m + 1) / 2) : Nat) : Int)), (3, .int .i64 ((r + 1 : Nat) : Int))]) (by rw [e30, e31]) ?_
      clear e30 e31
      refine GL.fit (ts := [0, 3]) (M' := [(0, .int .i64 ((((m + 1) / 2) : Nat) : Int)), (3, .int .i64 ((r + 1 : Nat) : Int))]) (by kernel_rfl) ?_
      refine GL.eq (M' := [(0, .int .i64 ((((m + 1) / 2) : Nat) : Int)), (3, .int .i64 (((r + 1) : Nat) : Int))]) (by rfl) ?_
      exact GL.again ⟨((m + 1) / 2), (r + 1)⟩ [0, 3] rfl (by kernel_rfl) (by show ((m + 1) / 2) < m; omega) ⟨⟨by rw [Nat.add_assoc, Nat.add_comm 1, ← cntH_step (by omega)]; exact hcnt, by omega, by omega⟩, H19⟩
def ha : List UInt8 := [191, 93, 58, 255, 183, 62, 253, 46, 198, 195, 106, 211, 17, 45, 217, 51, 239, 237, 99, 196, 225, 203, 255, 207, 168, 142, 39, 89, 193, 68, 242, 216]
theorem ha_is : sha (sha ([97] : List UInt8)) = ha := by
  rw [show sha ([97] : List UInt8) = ([202, 151, 129, 18, 202, 27, 189, 202, 250, 194, 49, 179, 154, 35, 220, 77, 167, 134, 239, 248, 20, 124, 78, 114, 185, 128, 119, 133, 175, 238, 72, 187] : List UInt8) by kernel_rfl]
  kernel_rfl
theorem lives_calls (w : World) : Calls Try.prog 7 #[] w fun e w' => e = .returned (.bool true) ∧ Hp w [] [] w' := by
  refine calls_G (args := []) Try.func7 rfl Try.ntmps7 rfl ?_
  intro Q0 hRet hNor hPan
  have H := Hp.start w
  have H : Hp w [] [] w := H
  refine G.seqK fun K1 hK2 => ?_
  refine G.region ?_
  refine GL.run (j := 1) 1 [] [] (by kernel_rfl) rfl ?_
  refine GL.k rfl hK2 (fun _ _ h => h) ?_
  refine G.seqK fun K3 hK4 => ?_
  refine G.region ?_
  obtain ⟨p5, w6, r7, H8⟩ := H.made (P := Try.prog) (Instr.buildSlice 49 1 #[(0, .int .u8 97)]) (fun b_ => .slice (some ⟨b_, 0, none⟩) 1 1) [.int .u8 97] 5 (by kernel_rfl)
  have H8 : Hp w [] [.blk p5 [.int .u8 97] 5] w6 := H8
  refine GL.sem (j := 1) (r7) [6] [(6, .slice (some ⟨p5, 0, none⟩) 1 1)] (by kernel_rfl) (by kernel_rfl) rfl ?_
  obtain ⟨w9, r10, H11⟩ := H8.mark (P := Try.prog) (o := 0) (T := 49) (n := 1) (c := 1) 0 rfl (by kernel_rfl)
  have H11 : Hp w [] [.blk p5 [.int .u8 97] 5] w9 := H11
  refine GL.sem (j := 2) (r10) [7] [(7, .slice (some ⟨p5, 0, none⟩) 1 1)] (by kernel_rfl) (by kernel_rfl) rfl ?_
  refine GL.call (j := 3) ((by have h_ := Double_calls (some ⟨p5, 0, none⟩) 1 1 ([97] : List UInt8) w9 (H11.rdBlk (o := 0) (xs := by8 ([97] : List UInt8)) 0 1 rfl rfl) rfl (by decide); rw [ha_is] at h_; exact h_)) (by kernel_rfl) rfl (fun e_ w12 hR => ?_)
  obtain ⟨rfl, H14⟩ := hR
  have H13 : Hp w [] [.blk p5 [.int .u8 97] 5] w12 := H11.callNil H14
  refine ⟨_, rfl, [8], [(8, .agg (by8 ha).toArray)], by kernel_rfl, ?_⟩
  obtain ⟨p15, w16, r17, H18⟩ := H13.alloc (P := Try.prog) 25 (by8 (List.replicate 32 0)) (by kernel_rfl)
  have H18 : Hp w [] [.blk p5 [.int .u8 97] 5, .blk p15 (by8 (List.replicate 32 0)) 25] w16 := H18
  refine GL.sem (j := 4) (r17) [1, 8] [(1, pt p15 0), (8, .agg (by8 ha).toArray)] (by kernel_rfl) (by kernel_rfl) rfl ?_
  obtain ⟨w19, r20, H21⟩ := H18.stA (P := Try.prog) (o := 0) (vs := by8 ha) (ty := 25) (m := 32) 1 rfl (by kernel_rfl) (by rw [by8_length, show ha.length = 32 from rfl]) (Nat.le_of_eq (by rw [Nat.zero_add]; exact ((show (by8 (List.replicate 32 0)).length = 32 from by rw [by8_length]; rfl)).symm)) (by8_one _)
  rw [st_whole (by rw [by8_length]; rfl)] at H21
  have H21 : Hp w [] [.blk p5 [.int .u8 97] 5, .blk p15 (by8 ha) 25] w19 := H21
  refine GL.semU (j := 5) r20 [1] [(1, pt p15 0)] (by kernel_rfl) rfl rfl rfl ?_
  refine GL.k rfl hK4 (fun _ _ h => h) ?_
  refine G.seqK fun K22 hK23 => ?_
  refine G.region ?_
  refine GL.sem (j := 1) (H21.ldA (o := 0) (ty := 25) (m := 32) (sub := by8 ha) 1 rfl (by kernel_rfl) (sub_whole (by rw [by8_length, show ha.length = 32 from rfl])) (by rw [by8_length, show ha.length = 32 from rfl])) [1, 10] [(1, pt p15 0), (10, .agg (by8 ha).toArray)] (by kernel_rfl) (by kernel_rfl) rfl ?_
  obtain ⟨p24, w25, r26, H27⟩ := H21.madeRow (P := Try.prog) (Instr.buildSlice 22 1 #[(0, .agg (by8 ha).toArray)]) (fun b_ => .slice (some ⟨b_, 0, none⟩) 1 1) (by8 ha) 25 1 1 32 (built1_22 ha (by rw [show ha.length = 32 from rfl])) (by decide) (by decide) (by rw [by8_length, show ha.length = 32 from rfl])
  rw [List.take_of_length_le (show (by8 ha).length ≤ 1 * 32 from Nat.le_of_eq (by rw [by8_length, show ha.length = 32 from rfl]))] at H27
  rw [show by8 ha = by8 (flat8 [ha]) by simp [flat8]] at H27
  have H27 : Hp w [] [.blk p5 [.int .u8 97] 5, .blk p15 (by8 ha) 25, .row (some ⟨p24, 0, none⟩) 1 1 25 32 (by8 (flat8 [ha]))] w25 := H27
  refine GL.sem (j := 2) (r26) [1, 11] [(1, pt p15 0), (11, .slice (some ⟨p24, 0, none⟩) 1 1)] (by kernel_rfl) (by kernel_rfl) rfl ?_
  refine GL.call (j := 3) (Root_calls (some ⟨p24, 0, none⟩) 1 [ha] w25 (H27.rdRowN 2 rfl) (by intro x hx; simp at hx; subst hx; rfl) (by decide)) (by kernel_rfl) rfl (fun e_ w28 hR => ?_)
  obtain ⟨rfl, H30⟩ := hR
  have H29 : Hp w [] [.blk p5 [.int .u8 97] 5, .blk p15 (by8 ha) 25, .row (some ⟨p24, 0, none⟩) 1 1 25 32 (by8 (flat8 [ha]))] w28 := H27.callNil H30
  refine ⟨_, rfl, [1, 12], [(1, pt p15 0), (12, .tuple #[.agg (by8 (rootV [ha])).toArray, .int .i64 (((rootE [ha]) : Nat) : Int)])], by kernel_rfl, ?_⟩
  refine GL.run (j := 6) 3 [1, 13, 14] [(1, pt p15 0), (13, .agg (by8 (rootV [ha])).toArray), (14, .int .i64 (((rootE [ha]) : Nat) : Int))] (by kernel_rfl) rfl ?_
  obtain ⟨p31, w32, r33, H34⟩ := H29.alloc (P := Try.prog) 25 (by8 (List.replicate 32 0)) (by kernel_rfl)
  have H34 : Hp w [] [.blk p5 [.int .u8 97] 5, .blk p15 (by8 ha) 25, .row (some ⟨p24, 0, none⟩) 1 1 25 32 (by8 (flat8 [ha])), .blk p31 (by8 (List.replicate 32 0)) 25] w32 := H34
  refine GL.sem (j := 7) (r33) [1, 2, 13, 14] [(1, pt p15 0), (2, pt p31 0), (13, .agg (by8 (rootV [ha])).toArray), (14, .int .i64 (((rootE [ha]) : Nat) : Int))] (by kernel_rfl) (by kernel_rfl) rfl ?_
  obtain ⟨w35, r36, H37⟩ := H34.stA (P := Try.prog) (o := 0) (vs := by8 (rootV [ha])) (ty := 25) (m := 32) 3 rfl (by kernel_rfl) (by rw [by8_length, show (rootV [ha]).length = 32 by kernel_rfl]) (Nat.le_of_eq (by rw [Nat.zero_add]; exact ((show (by8 (List.replicate 32 0)).length = 32 from by rw [by8_length]; rfl)).symm)) (by8_one _)
  rw [st_whole (by rw [by8_length]; rfl)] at H37
  have H37 : Hp w [] [.blk p5 [.int .u8 97] 5, .blk p15 (by8 ha) 25, .row (some ⟨p24, 0, none⟩) 1 1 25 32 (by8 (flat8 [ha])), .blk p31 (by8 (rootV [ha])) 25] w35 := H37
  refine GL.semU (j := 8) r36 [1, 2, 14] [(1, pt p15 0), (2, pt p31 0), (14, .int .i64 (((rootE [ha]) : Nat) : Int))] (by kernel_rfl) rfl rfl rfl ?_
  refine GL.run (j := 9) 1 [1, 2, 3] [(1, pt p15 0), (2, pt p31 0), (3, .int .i64 (((rootE [ha]) : Nat) : Int))] (by kernel_rfl) rfl ?_
  refine GL.k rfl hK23 (fun _ _ h => h) ?_
  refine G.seqK fun K38 hK39 => ?_
  refine G.region ?_
  refine GL.sem (j := 1) (H37.ldA (o := 0) (ty := 25) (m := 32) (sub := by8 ha) 1 rfl (by kernel_rfl) (sub_whole (by rw [by8_length, show ha.length = 32 from rfl])) (by rw [by8_length, show ha.length = 32 from rfl])) [1, 2, 3, 16] [(1, pt p15 0), (2, pt p31 0), (3, .int .i64 (((rootE [ha]) : Nat) : Int)), (16, .agg (by8 ha).toArray)] (by kernel_rfl) (by kernel_rfl) rfl ?_
  refine GL.sem (j := 2) (H37.ldA (o := 0) (ty := 25) (m := 32) (sub := by8 ha) 1 rfl (by kernel_rfl) (sub_whole (by rw [by8_length, show ha.length = 32 from rfl])) (by rw [by8_length, show ha.length = 32 from rfl])) [1, 2, 3, 16, 17] [(1, pt p15 0), (2, pt p31 0), (3, .int .i64 (((rootE [ha]) : Nat) : Int)), (16, .agg (by8 ha).toArray), (17, .agg (by8 ha).toArray)] (by kernel_rfl) (by kernel_rfl) rfl ?_
  refine GL.sem (j := 3) (H37.ldA (o := 0) (ty := 25) (m := 32) (sub := by8 ha) 1 rfl (by kernel_rfl) (sub_whole (by rw [by8_length, show ha.length = 32 from rfl])) (by rw [by8_length, show ha.length = 32 from rfl])) [1, 2, 3, 16, 17, 18] [(1, pt p15 0), (2, pt p31 0), (3, .int .i64 (((rootE [ha]) : Nat) : Int)), (16, .agg (by8 ha).toArray), (17, .agg (by8 ha).toArray), (18, .agg (by8 ha).toArray)] (by kernel_rfl) (by kernel_rfl) rfl ?_
  obtain ⟨p40, w41, r42, H43⟩ := H37.madeRow (P := Try.prog) (Instr.buildSlice 22 3 #[(0, .agg (by8 ha).toArray), (1, .agg (by8 ha).toArray), (2, .agg (by8 ha).toArray)]) (fun b_ => .slice (some ⟨b_, 0, none⟩) 3 3) (by8 (flat8 [ha, ha, ha])) 25 3 3 32 (built3_22 ha (by rw [show ha.length = 32 from rfl])) (by decide) (by decide) (by rw [by8_length, flat8_length (by intro x hx; simp at hx; subst hx; rw [show ha.length = 32 from rfl])]; rfl)
  rw [List.take_of_length_le (show (by8 (flat8 [ha, ha, ha])).length ≤ 3 * 32 from Nat.le_of_eq (by rw [by8_length, flat8_length (by intro x hx; simp at hx; subst hx; rw [show ha.length = 32 from rfl])]; rfl))] at H43
  have H43 : Hp w [] [.blk p5 [.int .u8 97] 5, .blk p15 (by8 ha) 25, .row (some ⟨p24, 0, none⟩) 1 1 25 32 (by8 (flat8 [ha])), .blk p31 (by8 (rootV [ha])) 25, .row (some ⟨p40, 0, none⟩) 3 3 25 32 (by8 (flat8 [ha, ha, ha]))] w41 := H43
  refine GL.sem (j := 4) (r42) [1, 2, 3, 19] [(1, pt p15 0), (2, pt p31 0), (3, .int .i64 (((rootE [ha]) : Nat) : Int)), (19, .slice (some ⟨p40, 0, none⟩) 3 3)] (by kernel_rfl) (by kernel_rfl) rfl ?_
  refine GL.call (j := 5) (Way_calls (some ⟨p40, 0, none⟩) 3 [ha, ha, ha] 2 w41 (H43.rdRowN 4 rfl) (by intro x hx; simp at hx; subst hx; rfl) (by decide) (by decide)) (by kernel_rfl) rfl (fun e_ w46 hR => ?_)
  obtain ⟨A44, c45, rfl, H48⟩ := hR
  have H47 : Hp w [] [.blk p5 [.int .u8 97] 5, .blk p15 (by8 ha) 25, .row (some ⟨p24, 0, none⟩) 1 1 25 32 (by8 (flat8 [ha])), .blk p31 (by8 (rootV [ha])) 25, .row (some ⟨p40, 0, none⟩) 3 3 25 32 (by8 (flat8 [ha, ha, ha])), .row A44 ((wayV [ha, ha, ha] 2).length) c45 25 32 (by8 (flat8 (wayV [ha, ha, ha] 2)))] w46 := H43.callNew H48
  refine ⟨_, rfl, [1, 2, 3, 20], [(1, pt p15 0), (2, pt p31 0), (3, .int .i64 (((rootE [ha]) : Nat) : Int)), (20, .tuple #[.slice A44 ((wayV [ha, ha, ha] 2).length) c45, .int .i64 (((wayE [ha, ha, ha] 2) : Nat) : Int)])], by kernel_rfl, ?_⟩
  refine GL.run (j := 10) 5 [1, 2, 3, 4, 5] [(1, pt p15 0), (2, pt p31 0), (3, .int .i64 (((rootE [ha]) : Nat) : Int)), (4, .slice A44 ((wayV [ha, ha, ha] 2).length) c45), (5, .int .i64 (((wayE [ha, ha, ha] 2) : Nat) : Int))] (by kernel_rfl) rfl ?_
  refine GL.k rfl hK39 (fun _ _ h => h) ?_
  refine G.seqK fun K49 hK50 => ?_
  refine G.region ?_
  refine GL.run (j := 3) 3 [1, 2, 4, 5, 25] [(1, pt p15 0), (2, pt p31 0), (4, .slice A44 ((wayV [ha, ha, ha] 2).length) c45), (5, .int .i64 (((wayE [ha, ha, ha] 2) : Nat) : Int)), (25, .bool ((((rootE [ha]) : Nat) : Int) == 0))] (by kernel_rfl) rfl ?_
  have hb51 : ((((rootE [ha]) : Nat) : Int) == 0) = true := by kernel_rfl
  rw [hb51]
  refine GL.run (j := 7) 4 [1, 2, 4, 29] [(1, pt p15 0), (2, pt p31 0), (4, .slice A44 ((wayV [ha, ha, ha] 2).length) c45), (29, .bool ((((wayE [ha, ha, ha] 2) : Nat) : Int) == 0))] (by kernel_rfl) rfl ?_
  have hb52 : ((((wayE [ha, ha, ha] 2) : Nat) : Int) == 0) = true := by kernel_rfl
  rw [hb52]
  refine GL.sem (j := 8) (H47.ldA (o := 0) (ty := 25) (m := 32) (sub := by8 (rootV [ha])) 3 rfl (by kernel_rfl) (sub_whole (by rw [by8_length, show (rootV [ha]).length = 32 by kernel_rfl])) (by rw [by8_length, show (rootV [ha]).length = 32 by kernel_rfl])) [1, 4, 29, 30] [(1, pt p15 0), (4, .slice A44 ((wayV [ha, ha, ha] 2).length) c45), (29, .bool true), (30, .agg (by8 (rootV [ha])).toArray)] (by kernel_rfl) (by kernel_rfl) rfl ?_
  refine GL.sem (j := 9) (H47.ldA (o := 0) (ty := 25) (m := 32) (sub := by8 ha) 1 rfl (by kernel_rfl) (sub_whole (by rw [by8_length, show ha.length = 32 from rfl])) (by rw [by8_length, show ha.length = 32 from rfl])) [1, 4, 29, 30, 31] [(1, pt p15 0), (4, .slice A44 ((wayV [ha, ha, ha] 2).length) c45), (29, .bool true), (30, .agg (by8 (rootV [ha])).toArray), (31, .agg (by8 ha).toArray)] (by kernel_rfl) (by kernel_rfl) rfl ?_
  refine GL.sem (j := 10) (run_by8_eql (P := Try.prog) (t := 25) (n := 32) (x := (.tmp 30)) (y := (.tmp 31)) (by kernel_rfl) (rootV [ha]) ha (by rw [show (rootV [ha]).length = 32 by kernel_rfl]) (by rw [show ha.length = 32 from rfl]) _) [1, 4, 29, 32] [(1, pt p15 0), (4, .slice A44 ((wayV [ha, ha, ha] 2).length) c45), (29, .bool true), (32, .bool (decide ((rootV [ha]) = ha)))] (by kernel_rfl) (by kernel_rfl) rfl ?_
  refine GL.run (j := 12) 2 [1, 4, 34] [(1, pt p15 0), (4, .slice A44 ((wayV [ha, ha, ha] 2).length) c45), (34, .bool (decide ((rootV [ha]) = ha)))] (by kernel_rfl) rfl ?_
  have hb53 : (decide ((rootV [ha]) = ha)) = true := by kernel_rfl
  rw [hb53]
  refine GL.sem (j := 13) (H47.ldA (o := 0) (ty := 25) (m := 32) (sub := by8 ha) 1 rfl (by kernel_rfl) (sub_whole (by rw [by8_length, show ha.length = 32 from rfl])) (by rw [by8_length, show ha.length = 32 from rfl])) [4, 34, 35] [(4, .slice A44 ((wayV [ha, ha, ha] 2).length) c45), (34, .bool true), (35, .agg (by8 ha).toArray)] (by kernel_rfl) (by kernel_rfl) rfl ?_
  refine GL.call (j := 14) (Zero_calls ha (by rw [show ha.length = 32 from rfl]) w46) (by kernel_rfl) rfl (fun e_ w54 hR => ?_)
  obtain ⟨rfl, H56⟩ := hR
  have H55 : Hp w [] [.blk p5 [.int .u8 97] 5, .blk p15 (by8 ha) 25, .row (some ⟨p24, 0, none⟩) 1 1 25 32 (by8 (flat8 [ha])), .blk p31 (by8 (rootV [ha])) 25, .row (some ⟨p40, 0, none⟩) 3 3 25 32 (by8 (flat8 [ha, ha, ha])), .row A44 ((wayV [ha, ha, ha] 2).length) c45 25 32 (by8 (flat8 (wayV [ha, ha, ha] 2)))] w54 := H47.callNil H56
  refine ⟨_, rfl, [4, 34, 36], [(4, .slice A44 ((wayV [ha, ha, ha] 2).length) c45), (34, .bool true), (36, .bool (decide (ha = (List.replicate 32 0))))], by kernel_rfl, ?_⟩
  refine GL.run (j := 17) 3 [4, 39] [(4, .slice A44 ((wayV [ha, ha, ha] 2).length) c45), (39, .bool (!(decide (ha = (List.replicate 32 0)))))] (by kernel_rfl) rfl ?_
  have hb57 : (!(decide (ha = (List.replicate 32 0)))) = true := by rw [show (decide (ha = (List.replicate 32 0))) = false from by kernel_rfl]; rfl
  rw [hb57]
  refine GL.run (j := 22) 5 [0] [(0, .bool ((((wayV [ha, ha, ha] 2).length : Nat) : Int) == 2))] (by kernel_rfl) rfl ?_
  refine GL.k rfl hK50 (fun _ _ h => h) ?_
  refine G.ret ?_
  intro F_ hF_ hM_
  refine hRet _ _ (bodyPost_1 rfl (RV.tmp rfl) ?_ F_ hF_ hM_)
  have hb58 : ((((wayV [ha, ha, ha] 2).length : Nat) : Int) == 2) = true := by kernel_rfl
  rw [hb58]
  exact ⟨rfl, H55.sub (List.nil_sublist _)⟩
theorem take_snoc8 {X : List UInt8} {k : Nat} (h : k < X.length) : List.take (k + 1) X = List.take k X ++ [X.getD k 0] := by
  rw [List.take_add_one, getD8 h]
  rfl
theorem RefBoth_calls (X Y : List UInt8) (hX : X.length = 32) (hY : Y.length = 32) (w : World) : Calls Try.prog 20 #[.agg (by8 X).toArray, .agg (by8 Y).toArray] w fun e w' => e = .returned (.agg (by8 (bothH X Y)).toArray) ∧ Hp w [] [] w' := by
  refine calls_G (args := [.agg (by8 X).toArray, .agg (by8 Y).toArray]) Try.func20 rfl Try.ntmps20 rfl ?_
  intro Q0 hRet hNor hPan
  have H := Hp.start w
  have H : Hp w [] [] w := H
  refine G.seqK fun K1 hK2 => ?_
  refine G.region ?_
  obtain ⟨p3, w4, r5, H6⟩ := H.box (P := Try.prog) 24 (by8 X) (.agg (by8 X).toArray) rfl
  have H6 : Hp w [] [.blk p3 (by8 X) 24] w4 := H6
  refine GL.sem (j := 1) (r5) [1, 2] [(1, .agg (by8 Y).toArray), (2, pt p3 0)] (by kernel_rfl) (by kernel_rfl) rfl ?_
  obtain ⟨p7, w8, r9, H10⟩ := H6.box (P := Try.prog) 24 (by8 Y) (.agg (by8 Y).toArray) rfl
  have H10 : Hp w [] [.blk p3 (by8 X) 24, .blk p7 (by8 Y) 24] w8 := H10
  refine GL.sem (j := 2) (r9) [2, 3] [(2, pt p3 0), (3, pt p7 0)] (by kernel_rfl) (by kernel_rfl) rfl ?_
  obtain ⟨p11, w12, r13, H14⟩ := H10.alloc (P := Try.prog) 24 (by8 (List.replicate 32 0)) (by kernel_rfl)
  have H14 : Hp w [] [.blk p3 (by8 X) 24, .blk p7 (by8 Y) 24, .blk p11 (by8 (List.replicate 32 0)) 24] w12 := H14
  refine GL.sem (j := 3) (r13) [2, 3, 4] [(2, pt p3 0), (3, pt p7 0), (4, pt p11 0)] (by kernel_rfl) (by kernel_rfl) rfl ?_
  refine GL.k rfl hK2 (fun _ _ h => h) ?_
  refine G.seqK fun K15 hK16 => ?_
  refine G.region ?_
  obtain ⟨p17, w18, r19, H20⟩ := H14.madeRow (P := Try.prog) (Instr.buildSlice 49 0 #[]) (fun b_ => .slice (some ⟨b_, 0, none⟩) 0 0) [] 5 0 0 1 (by kernel_rfl) (by decide) (by decide) rfl
  have H20 : Hp w [] [.blk p3 (by8 X) 24, .blk p7 (by8 Y) 24, .blk p11 (by8 (List.replicate 32 0)) 24, .row (some ⟨p17, 0, none⟩) 0 0 5 1 (by8 ([] : List UInt8))] w18 := H20
  refine GL.sem (j := 1) (r19) [2, 3, 4, 8] [(2, pt p3 0), (3, pt p7 0), (4, pt p11 0), (8, .slice (some ⟨p17, 0, none⟩) 0 0)] (by kernel_rfl) (by kernel_rfl) rfl ?_
  refine GL.run (j := 2) 1 [2, 3, 4, 5] [(2, pt p3 0), (3, pt p7 0), (4, pt p11 0), (5, .slice (some ⟨p17, 0, none⟩) 0 0)] (by kernel_rfl) rfl ?_
  refine GL.k rfl hK16 (fun _ _ h => h) ?_
  refine G.seqK fun K21 hK22 => ?_
  refine G.seqK fun K23 hK24 => ?_
  refine G.region ?_
  refine GL.run (j := 1) 1 [2, 3, 4, 5, 9] [(2, pt p3 0), (3, pt p7 0), (4, pt p11 0), (5, .slice (some ⟨p17, 0, none⟩) 0 0), (9, .int .i64 0)] (by kernel_rfl) rfl ?_
  refine GL.k rfl hK24 (fun _ _ h => h) ?_
  refine G.block ?_
  have H25 : Hp w [] [.blk p3 (by8 X) 24, .blk p7 (by8 Y) 24, .blk p11 (by8 (List.replicate 32 0)) 24, .row (some ⟨p17, 0, none⟩) 0 0 5 1 (by8 (List.take 0 X))] w18 := H20
  refine G.fit [2, 3, 4, 5, 9] (M' := [(2, pt p3 0), (3, pt p7 0), (4, pt p11 0), (5, .slice (some ⟨p17, 0, none⟩) 0 0), (9, .int .i64 0)]) (by kernel_rfl) ?_
  refine G.loop (X := Nat × Option Addr × Nat) (fun ⟨k, A_, c_⟩ => [(2, pt p3 0), (3, pt p7 0), (4, pt p11 0), (5, .slice A_ k c_), (9, .int .i64 (k : Int))]) (fun ⟨k, A_, c_⟩ w_ => (k ≤ 32) ∧ Hp w [] [.blk p3 (by8 X) 24, .blk p7 (by8 Y) 24, .blk p11 (by8 (List.replicate 32 0)) 24, .row A_ k c_ 5 1 (by8 (List.take k X))] w_) (fun ⟨k, A_, c_⟩ => 32 - k) ⟨0, (some ⟨p17, 0, none⟩), 0⟩ [2, 3, 4, 5, 9] (by kernel_rfl) ⟨by omega, H25⟩ ?_
  rintro ⟨k, A_, c_⟩ w26 ⟨hi27, H28⟩
  refine G.eq (M' := [(2, pt p3 0), (3, pt p7 0), (4, pt p11 0), (5, .slice A_ k c_), (9, .int .i64 (k : Int))]) rfl ?_
  have H28 : Hp w [] [.blk p3 (by8 X) 24, .blk p7 (by8 Y) 24, .blk p11 (by8 (List.replicate 32 0)) 24, .row A_ k c_ 5 1 (by8 (List.take k X))] w26 := H28
  have hk32 := hi27
  refine G.seqK fun K29 hK30 => ?_
  refine G.region ?_
  refine GL.run (j := 1) 1 [2, 3, 4, 5, 9, 10] [(2, pt p3 0), (3, pt p7 0), (4, pt p11 0), (5, .slice A_ k c_), (9, .int .i64 (k : Int)), (10, .bool (decide ((k : Int) < 32)))] (by kernel_rfl) rfl ?_
  refine GL.k rfl hK30 (fun _ _ h => h) ?_
  refine G.seqK fun K31 hK32 => ?_
  cases hb33 : (decide ((k : Int) < 32))
  · skip
    have hb33f := of_decide_eq_false hb33
    refine G.no rfl ?_
    refine G.exitK hK22 (fun _ _ h => h) ?_
    refine G.seqK fun K34 hK35 => ?_
    refine G.seqK fun K36 hK37 => ?_
    refine G.region ?_
    refine GL.run (j := 1) 1 [3, 4, 5, 19] [(3, pt p7 0), (4, pt p11 0), (5, .slice A_ k c_), (19, .int .i64 0)] (by kernel_rfl) rfl ?_
    refine GL.k rfl hK37 (fun _ _ h => h) ?_
    refine G.block ?_
    obtain rfl : k = 32 := by omega
    have H38 : Hp w [] [.blk p3 (by8 X) 24, .blk p7 (by8 Y) 24, .blk p11 (by8 (List.replicate 32 0)) 24, .row A_ (32 + 0) c_ 5 1 (by8 (X ++ List.take 0 Y))] w26 := (by have h_ := H28; rw [List.take_of_length_le (l := X) (by omega)] at h_; rw [List.take_zero, List.append_nil]; exact h_)
    refine G.fit [3, 4, 5, 19] (M' := [(3, pt p7 0), (4, pt p11 0), (5, .slice A_ (32 + 0) c_), (19, .int .i64 0)]) (by kernel_rfl) ?_
    refine G.loop (X := Nat × Option Addr × Nat) (fun ⟨k, A_, c_⟩ => [(3, pt p7 0), (4, pt p11 0), (5, .slice A_ (32 + k) c_), (19, .int .i64 (k : Int))]) (fun ⟨k, A_, c_⟩ w_ => (k ≤ 32) ∧ Hp w [] [.blk p3 (by8 X) 24, .blk p7 (by8 Y) 24, .blk p11 (by8 (List.replicate 32 0)) 24, .row A_ (32 + k) c_ 5 1 (by8 (X ++ List.take k Y))] w_) (fun ⟨k, A_, c_⟩ => 32 - k) ⟨0, A_, c_⟩ [3, 4, 5, 19] (by kernel_rfl) ⟨by omega, H38⟩ ?_
    rintro ⟨k, A_, c_⟩ w39 ⟨hi40, H41⟩
    refine G.eq (M' := [(3, pt p7 0), (4, pt p11 0), (5, .slice A_ (32 + k) c_), (19, .int .i64 (k : Int))]) rfl ?_
    have H41 : Hp w [] [.blk p3 (by8 X) 24, .blk p7 (by8 Y) 24, .blk p11 (by8 (List.replicate 32 0)) 24, .row A_ (32 + k) c_ 5 1 (by8 (X ++ List.take k Y))] w39 := H41
    have hk32 := hi40
    refine G.seqK fun K42 hK43 => ?_
    refine G.region ?_
    refine GL.run (j := 1) 1 [3, 4, 5, 19, 20] [(3, pt p7 0), (4, pt p11 0), (5, .slice A_ (32 + k) c_), (19, .int .i64 (k : Int)), (20, .bool (decide ((k : Int) < 32)))] (by kernel_rfl) rfl ?_
    refine GL.k rfl hK43 (fun _ _ h => h) ?_
    refine G.seqK fun K44 hK45 => ?_
    cases hb46 : (decide ((k : Int) < 32))
    · skip
      have hb46f := of_decide_eq_false hb46
      refine G.no rfl ?_
      refine G.exitK hK35 (fun _ _ h => h) ?_
      refine G.seqK fun K47 hK48 => ?_
      refine G.region ?_
      refine GL.run (j := 1) 1 [4, 29] [(4, pt p11 0), (29, .slice A_ (32 + k) c_)] (by kernel_rfl) rfl ?_
      refine GL.call (j := 2) (RefDouble_calls A_ (32 + k) c_ (X ++ List.take k Y) w39 (H41.rdRow 3 rfl) (by rw [List.length_append, List.length_take, hX, hY]; omega) (by rw [List.length_append, List.length_take, hX, hY]; omega)) (by kernel_rfl) rfl (fun e_ w49 hR => ?_)
      obtain ⟨rfl, H51⟩ := hR
      have H50 : Hp w [] [.blk p3 (by8 X) 24, .blk p7 (by8 Y) 24, .blk p11 (by8 (List.replicate 32 0)) 24, .row A_ (32 + k) c_ 5 1 (by8 (X ++ List.take k Y))] w49 := H41.callNil H51
      refine ⟨_, rfl, [4, 30], [(4, pt p11 0), (30, .agg (by8 (sha (sha (X ++ List.take k Y)))).toArray)], by kernel_rfl, ?_⟩
      obtain ⟨w52, r53, H54⟩ := H50.stA (P := Try.prog) (o := 0) (vs := by8 (sha (sha (X ++ List.take k Y)))) (ty := 24) (m := 32) 2 rfl (by kernel_rfl) (by rw [by8_length, sha_length]) (Nat.le_of_eq (by rw [Nat.zero_add]; exact ((show (by8 (List.replicate 32 0)).length = 32 from by rw [by8_length]; rfl)).symm)) (by8_one _)
      rw [st_whole (by rw [by8_length]; rfl)] at H54
      have H54 : Hp w [] [.blk p3 (by8 X) 24, .blk p7 (by8 Y) 24, .blk p11 (by8 (sha (sha (X ++ List.take k Y)))) 24, .row A_ (32 + k) c_ 5 1 (by8 (X ++ List.take k Y))] w52 := H54
      refine GL.semU (j := 3) r53 [4] [(4, pt p11 0)] (by kernel_rfl) rfl rfl rfl ?_
      refine GL.k rfl hK48 (fun _ _ h => h) ?_
      refine G.ret ?_
      intro F_ hF_ hM_
      refine hRet _ _ (bodyPost_1 rfl (RV.cell rfl (H54.ldA (o := 0) (ty := 24) (m := 32) (sub := by8 (sha (sha (X ++ List.take k Y)))) 2 rfl (by kernel_rfl) (sub_whole (by rw [by8_length, sha_length])) (by rw [by8_length, sha_length]))) ?_ F_ hF_ hM_)
      have eY : List.take k Y = Y := List.take_of_length_le (by omega)
      rw [show bothH X Y = sha (sha (X ++ List.take k Y)) by rw [eY]; rfl]
      exact ⟨rfl, H54.sub (List.nil_sublist _)⟩
    · skip
      have hb46f := of_decide_eq_true hb46
      refine G.yes rfl ?_
      refine G.skipK hK45 (fun _ _ h => h) ?_
      refine G.seqK fun K55 hK56 => ?_
      refine G.block ?_
      refine G.seqK fun K57 hK58 => ?_
      refine G.region ?_
      refine GL.run (j := 2) 2 [3, 4, 5, 7, 19] [(3, pt p7 0), (4, pt p11 0), (5, .slice A_ (32 + k) c_), (7, .int .i64 (k : Int)), (19, .int .i64 (k : Int))] (by kernel_rfl) rfl ?_
      refine GL.k rfl hK58 (fun _ _ h => h) ?_
      refine G.region ?_
      refine GL.run (j := 2) 2 [3, 4, 19, 22, 23] [(3, pt p7 0), (4, pt p11 0), (19, .int .i64 (k : Int)), (22, .slice A_ (32 + k) c_), (23, .int .i64 (k : Int))] (by kernel_rfl) rfl ?_
      refine GL.sem (j := 3) (run_idxArr (P := Try.prog) (k := .i64) (t := 24) (len := 32) (sz := 1) (b := p7) (o := 0) (j := k) (by kernel_rfl) rfl (by omega)) [3, 4, 19, 22, 24] [(3, pt p7 0), (4, pt p11 0), (19, .int .i64 (k : Int)), (22, .slice A_ (32 + k) c_), (24, pt p7 (0 + k * 1))] (by kernel_rfl) (by kernel_rfl) rfl ?_
      refine GL.sem (j := 4) (H41.ld (o := (0 + k * 1)) (ty := 5) (v := .int .u8 (((Y.getD k 0)).toNat : Int)) 1 rfl (by kernel_rfl) (by rw [show (0 + k * 1) = k by omega]; exact by8_at (getD8 (by rw [hY]; omega)))) [3, 4, 19, 22, 25] [(3, pt p7 0), (4, pt p11 0), (19, .int .i64 (k : Int)), (22, .slice A_ (32 + k) c_), (25, .int .u8 (((Y.getD k 0)).toNat : Int))] (by kernel_rfl) (by kernel_rfl) rfl ?_
      obtain ⟨p59, w60, r61, H62⟩ := H41.madeRow (P := Try.prog) (Instr.buildSlice 49 1 #[(0, .int .u8 (((Y.getD k 0)).toNat : Int))]) (fun b_ => .slice (some ⟨b_, 0, none⟩) 1 1) [.int .u8 (((Y.getD k 0)).toNat : Int)] 5 1 1 1 (by kernel_rfl) (by decide) (by decide) rfl
      have H62 : Hp w [] [.blk p3 (by8 X) 24, .blk p7 (by8 Y) 24, .blk p11 (by8 (List.replicate 32 0)) 24, .row A_ (32 + k) c_ 5 1 (by8 (X ++ List.take k Y)), .row (some ⟨p59, 0, none⟩) 1 1 5 1 (by8 ([((Y.getD k 0))] : List UInt8))] w60 := H62
      refine GL.sem (j := 5) (r61) [3, 4, 19, 22, 26] [(3, pt p7 0), (4, pt p11 0), (19, .int .i64 (k : Int)), (22, .slice A_ (32 + k) c_), (26, .slice (some ⟨p59, 0, none⟩) 1 1)] (by kernel_rfl) (by kernel_rfl) rfl ?_
      obtain ⟨A63, c64, w65, r66, H67⟩ := H62.append (P := Try.prog) (e := 5) (sz := 1) (by_ := 1) (n := (32 + k)) (c := c_) (m := 1) (d := 1) (t := 49) (ty := 49) (xs := by8 (X ++ List.take k Y)) (news := by8 ([((Y.getD k 0))] : List UInt8)) 3 rfl (by kernel_rfl) (H62.rdRow 4 rfl) (by first | (simp [by8_length]; done) | (rw [by8_length]; omega) | (rw [by8_length, putB_length])) (by8_one _) (by omega) (by simp only [maxLen]; omega)
      rw [← by8_append] at H67
      have H67 : Hp w [] [.blk p3 (by8 X) 24, .blk p7 (by8 Y) 24, .blk p11 (by8 (List.replicate 32 0)) 24, .row A63 ((32 + k) + 1) c64 5 1 (by8 ((X ++ List.take k Y) ++ ([((Y.getD k 0))] : List UInt8))), .row (some ⟨p59, 0, none⟩) 1 1 5 1 (by8 ([((Y.getD k 0))] : List UInt8))] w65 := H67
      refine GL.sem (j := 6) (r66) [3, 4, 19, 27] [(3, pt p7 0), (4, pt p11 0), (19, .int .i64 (k : Int)), (27, .slice A63 ((32 + k) + 1) c64)] (by kernel_rfl) (by kernel_rfl) rfl ?_
      refine GL.run (j := 7) 1 [3, 4, 5, 19] [(3, pt p7 0), (4, pt p11 0), (5, .slice A63 ((32 + k) + 1) c64), (19, .int .i64 (k : Int))] (by kernel_rfl) rfl ?_
      refine GL.k rfl hK56 (fun _ _ h => h) ?_
      refine G.region ?_
      refine GL.run (j := 2) 2 [3, 4, 5, 19] [(3, pt p7 0), (4, pt p11 0), (5, .slice A63 ((32 + k) + 1) c64), (19, .int .i64 (IntKind.i64.wrap ((k : Int) + 1)))] (by kernel_rfl) rfl ?_
      have e68 : (IntKind.i64.wrap ((k : Int) + 1)) = ((k + 1 : Nat) : Int) := by rw [in_i64 (by omega)]; omega
      refine GL.eq (M' := [(3, pt p7 0), (4, pt p11 0), (5, .slice A63 ((32 + k) + 1) c64), (19, .int .i64 ((k + 1 : Nat) : Int))]) (by rw [e68]) ?_
      clear e68
      have H69 : Hp w [] [.blk p3 (by8 X) 24, .blk p7 (by8 Y) 24, .blk p11 (by8 (List.replicate 32 0)) 24, .row A63 ((32 + k) + 1) c64 5 1 (by8 ((X ++ List.take k Y) ++ ([((Y.getD k 0))] : List UInt8)))] w65 := H67.sub (List.Sublist.cons_cons _ (List.Sublist.cons_cons _ (List.Sublist.cons_cons _ (List.Sublist.cons_cons _ (List.Sublist.cons _ (List.Sublist.slnil))))))
      have H70 : Hp w [] [.blk p3 (by8 X) 24, .blk p7 (by8 Y) 24, .blk p11 (by8 (List.replicate 32 0)) 24, .row A63 (32 + (k + 1)) c64 5 1 (by8 (X ++ List.take (k + 1) Y))] w65 := by rw [take_snoc8 (by omega), ← List.append_assoc]; exact H69
      refine GL.fit (ts := [3, 4, 5, 19]) (M' := [(3, pt p7 0), (4, pt p11 0), (5, .slice A63 ((32 + k) + 1) c64), (19, .int .i64 ((k + 1 : Nat) : Int))]) (by kernel_rfl) ?_
      refine GL.eq (M' := [(3, pt p7 0), (4, pt p11 0), (5, .slice A63 (32 + (k + 1)) c64), (19, .int .i64 (((k + 1) : Nat) : Int))]) (by rfl) ?_
      exact GL.again ⟨(k + 1), A63, c64⟩ [3, 4, 5, 19] rfl (by kernel_rfl) (by show 32 - (k + 1) < 32 - k; omega) ⟨by omega, H70⟩
  · skip
    have hb33f := of_decide_eq_true hb33
    refine G.yes rfl ?_
    refine G.skipK hK32 (fun _ _ h => h) ?_
    refine G.seqK fun K71 hK72 => ?_
    refine G.block ?_
    refine G.seqK fun K73 hK74 => ?_
    refine G.region ?_
    refine GL.run (j := 2) 2 [2, 3, 4, 5, 6, 9] [(2, pt p3 0), (3, pt p7 0), (4, pt p11 0), (5, .slice A_ k c_), (6, .int .i64 (k : Int)), (9, .int .i64 (k : Int))] (by kernel_rfl) rfl ?_
    refine GL.k rfl hK74 (fun _ _ h => h) ?_
    refine G.region ?_
    refine GL.run (j := 2) 2 [2, 3, 4, 9, 12, 13] [(2, pt p3 0), (3, pt p7 0), (4, pt p11 0), (9, .int .i64 (k : Int)), (12, .slice A_ k c_), (13, .int .i64 (k : Int))] (by kernel_rfl) rfl ?_
    refine GL.sem (j := 3) (run_idxArr (P := Try.prog) (k := .i64) (t := 24) (len := 32) (sz := 1) (b := p3) (o := 0) (j := k) (by kernel_rfl) rfl (by omega)) [2, 3, 4, 9, 12, 14] [(2, pt p3 0), (3, pt p7 0), (4, pt p11 0), (9, .int .i64 (k : Int)), (12, .slice A_ k c_), (14, pt p3 (0 + k * 1))] (by kernel_rfl) (by kernel_rfl) rfl ?_
    refine GL.sem (j := 4) (H28.ld (o := (0 + k * 1)) (ty := 5) (v := .int .u8 (((X.getD k 0)).toNat : Int)) 0 rfl (by kernel_rfl) (by rw [show (0 + k * 1) = k by omega]; exact by8_at (getD8 (by rw [hX]; omega)))) [2, 3, 4, 9, 12, 15] [(2, pt p3 0), (3, pt p7 0), (4, pt p11 0), (9, .int .i64 (k : Int)), (12, .slice A_ k c_), (15, .int .u8 (((X.getD k 0)).toNat : Int))] (by kernel_rfl) (by kernel_rfl) rfl ?_
    obtain ⟨p75, w76, r77, H78⟩ := H28.madeRow (P := Try.prog) (Instr.buildSlice 49 1 #[(0, .int .u8 (((X.getD k 0)).toNat : Int))]) (fun b_ => .slice (some ⟨b_, 0, none⟩) 1 1) [.int .u8 (((X.getD k 0)).toNat : Int)] 5 1 1 1 (by kernel_rfl) (by decide) (by decide) rfl
    have H78 : Hp w [] [.blk p3 (by8 X) 24, .blk p7 (by8 Y) 24, .blk p11 (by8 (List.replicate 32 0)) 24, .row A_ k c_ 5 1 (by8 (List.take k X)), .row (some ⟨p75, 0, none⟩) 1 1 5 1 (by8 ([((X.getD k 0))] : List UInt8))] w76 := H78
    refine GL.sem (j := 5) (r77) [2, 3, 4, 9, 12, 16] [(2, pt p3 0), (3, pt p7 0), (4, pt p11 0), (9, .int .i64 (k : Int)), (12, .slice A_ k c_), (16, .slice (some ⟨p75, 0, none⟩) 1 1)] (by kernel_rfl) (by kernel_rfl) rfl ?_
    obtain ⟨A79, c80, w81, r82, H83⟩ := H78.append (P := Try.prog) (e := 5) (sz := 1) (by_ := 1) (n := k) (c := c_) (m := 1) (d := 1) (t := 49) (ty := 49) (xs := by8 (List.take k X)) (news := by8 ([((X.getD k 0))] : List UInt8)) 3 rfl (by kernel_rfl) (H78.rdRow 4 rfl) (by first | (simp [by8_length]; done) | (rw [by8_length]; omega) | (rw [by8_length, putB_length])) (by8_one _) (by omega) (by simp only [maxLen]; omega)
    rw [← by8_append] at H83
    have H83 : Hp w [] [.blk p3 (by8 X) 24, .blk p7 (by8 Y) 24, .blk p11 (by8 (List.replicate 32 0)) 24, .row A79 (k + 1) c80 5 1 (by8 ((List.take k X) ++ ([((X.getD k 0))] : List UInt8))), .row (some ⟨p75, 0, none⟩) 1 1 5 1 (by8 ([((X.getD k 0))] : List UInt8))] w81 := H83
    refine GL.sem (j := 6) (r82) [2, 3, 4, 9, 17] [(2, pt p3 0), (3, pt p7 0), (4, pt p11 0), (9, .int .i64 (k : Int)), (17, .slice A79 (k + 1) c80)] (by kernel_rfl) (by kernel_rfl) rfl ?_
    refine GL.run (j := 7) 1 [2, 3, 4, 5, 9] [(2, pt p3 0), (3, pt p7 0), (4, pt p11 0), (5, .slice A79 (k + 1) c80), (9, .int .i64 (k : Int))] (by kernel_rfl) rfl ?_
    refine GL.k rfl hK72 (fun _ _ h => h) ?_
    refine G.region ?_
    refine GL.run (j := 2) 2 [2, 3, 4, 5, 9] [(2, pt p3 0), (3, pt p7 0), (4, pt p11 0), (5, .slice A79 (k + 1) c80), (9, .int .i64 (IntKind.i64.wrap ((k : Int) + 1)))] (by kernel_rfl) rfl ?_
    have e84 : (IntKind.i64.wrap ((k : Int) + 1)) = ((k + 1 : Nat) : Int) := by rw [in_i64 (by omega)]; omega
    refine GL.eq (M' := [(2, pt p3 0), (3, pt p7 0), (4, pt p11 0), (5, .slice A79 (k + 1) c80), (9, .int .i64 ((k + 1 : Nat) : Int))]) (by rw [e84]) ?_
    clear e84
    have H85 : Hp w [] [.blk p3 (by8 X) 24, .blk p7 (by8 Y) 24, .blk p11 (by8 (List.replicate 32 0)) 24, .row A79 (k + 1) c80 5 1 (by8 ((List.take k X) ++ ([((X.getD k 0))] : List UInt8)))] w81 := H83.sub (List.Sublist.cons_cons _ (List.Sublist.cons_cons _ (List.Sublist.cons_cons _ (List.Sublist.cons_cons _ (List.Sublist.cons _ (List.Sublist.slnil))))))
    have H86 : Hp w [] [.blk p3 (by8 X) 24, .blk p7 (by8 Y) 24, .blk p11 (by8 (List.replicate 32 0)) 24, .row A79 (k + 1) c80 5 1 (by8 (List.take (k + 1) X))] w81 := by rw [take_snoc8 (by omega)]; exact H85
    refine GL.fit (ts := [2, 3, 4, 5, 9]) (M' := [(2, pt p3 0), (3, pt p7 0), (4, pt p11 0), (5, .slice A79 (k + 1) c80), (9, .int .i64 ((k + 1 : Nat) : Int))]) (by kernel_rfl) ?_
    refine GL.eq (M' := [(2, pt p3 0), (3, pt p7 0), (4, pt p11 0), (5, .slice A79 (k + 1) c80), (9, .int .i64 (((k + 1) : Nat) : Int))]) (by rfl) ?_
    exact GL.again ⟨(k + 1), A79, c80⟩ [2, 3, 4, 5, 9] rfl (by kernel_rfl) (by show 32 - (k + 1) < 32 - k; omega) ⟨by omega, H86⟩
theorem RefUp_calls (A : Option Addr) (c : Nat) (l : List (List UInt8)) (w : World) (hx : RdS w A (by8 (flat8 l))) (hok : ok32 l) (hc : l.length ≤ c) (hl : l.length ≤ 65536) : Calls Try.prog 25 #[.slice A l.length c] w fun e w' => ∃ A' c', e = .returned (.slice A' (upH l).length c') ∧ Hp w [] [.row A' (upH l).length c' 24 32 (by8 (flat8 (upH l)))] w' := by
  refine calls_G (args := [.slice A l.length c]) Try.func25 rfl Try.ntmps25 rfl ?_
  intro Q0 hRet hNor hPan
  have H := Hp.start w
  have H : Hp w [] [] w := H
  refine G.seqK fun K1 hK2 => ?_
  refine G.region ?_
  refine GL.run (j := 1) 1 [0] [(0, .slice A l.length c)] (by kernel_rfl) rfl ?_
  refine GL.k rfl hK2 (fun _ _ h => h) ?_
  refine G.seqK fun K3 hK4 => ?_
  refine G.region ?_
  obtain ⟨p5, w6, r7, H8⟩ := H.madeRow (P := Try.prog) (Instr.buildSlice 33 0 #[]) (fun b_ => .slice (some ⟨b_, 0, none⟩) 0 0) [] 24 0 0 32 (by kernel_rfl) (by decide) (by decide) rfl
  have H8 : Hp w [] [.row (some ⟨p5, 0, none⟩) 0 0 24 32 (by8 (flat8 []))] w6 := H8
  refine GL.sem (j := 1) (r7) [0, 5] [(0, .slice A l.length c), (5, .slice (some ⟨p5, 0, none⟩) 0 0)] (by kernel_rfl) (by kernel_rfl) rfl ?_
  refine GL.run (j := 2) 1 [0, 3] [(0, .slice A l.length c), (3, .slice (some ⟨p5, 0, none⟩) 0 0)] (by kernel_rfl) rfl ?_
  refine GL.k rfl hK4 (fun _ _ h => h) ?_
  refine G.seqK fun K9 hK10 => ?_
  refine G.seqK fun K11 hK12 => ?_
  refine G.region ?_
  refine GL.run (j := 1) 1 [0, 3, 4] [(0, .slice A l.length c), (3, .slice (some ⟨p5, 0, none⟩) 0 0), (4, .int .i64 0)] (by kernel_rfl) rfl ?_
  refine GL.k rfl hK12 (fun _ _ h => h) ?_
  refine G.block ?_
  have H13 : Hp w [] [.row (some ⟨p5, 0, none⟩) 0 0 24 32 (by8 (flat8 ((upH l).take 0)))] w6 := H8
  refine G.fit [0, 3, 4] (M' := [(0, .slice A l.length c), (3, .slice (some ⟨p5, 0, none⟩) 0 0), (4, .int .i64 0)]) (by kernel_rfl) ?_
  refine G.eq (M' := [(0, .slice A l.length c), (3, .slice (some ⟨p5, 0, none⟩) 0 0), (4, .int .i64 (((2 * 0) : Nat) : Int))]) (by rfl) ?_
  refine G.loop (X := Nat × Option Addr × Nat) (fun ⟨k, A_, c_⟩ => [(0, .slice A l.length c), (3, .slice A_ k c_), (4, .int .i64 (((2 * k) : Nat) : Int))]) (fun ⟨k, A_, c_⟩ w_ => (k ≤ (l.length + 1) / 2) ∧ Hp w [] [.row A_ k c_ 24 32 (by8 (flat8 ((upH l).take k)))] w_) (fun ⟨k, A_, c_⟩ => (l.length + 1) / 2 - k) ⟨0, (some ⟨p5, 0, none⟩), 0⟩ [0, 3, 4] (by kernel_rfl) ⟨by omega, H13⟩ ?_
  rintro ⟨k, A_, c_⟩ w14 ⟨hi15, H16⟩
  refine G.eq (M' := [(0, .slice A l.length c), (3, .slice A_ k c_), (4, .int .i64 (((2 * k) : Nat) : Int))]) rfl ?_
  have H16 : Hp w [] [.row A_ k c_ 24 32 (by8 (flat8 ((upH l).take k)))] w14 := H16
  have hkl := hi15
  refine G.seqK fun K17 hK18 => ?_
  refine G.seqK fun K19 hK20 => ?_
  refine G.region ?_
  refine GL.run (j := 4) 4 [0, 3, 4, 9] [(0, .slice A l.length c), (3, .slice A_ k c_), (4, .int .i64 (((2 * k) : Nat) : Int)), (9, .bool (decide ((((2 * k) : Nat) : Int) < (l.length : Int))))] (by kernel_rfl) rfl ?_
  refine GL.k rfl hK20 (fun _ _ h => h) ?_
  cases hb21 : (decide ((((2 * k) : Nat) : Int) < (l.length : Int)))
  · skip
    have hb21f := of_decide_eq_false hb21
    refine G.no rfl ?_
    refine G.exitK hK10 (fun _ _ h => h) ?_
    refine G.seqK fun K22 hK23 => ?_
    refine G.region ?_
    refine GL.run (j := 2) 2 [2] [(2, .slice A_ k c_)] (by kernel_rfl) rfl ?_
    refine GL.k rfl hK23 (fun _ _ h => h) ?_
    refine G.ret ?_
    intro F_ hF_ hM_
    refine hRet _ _ (bodyPost_1 rfl (RV.tmp rfl) ?_ F_ hF_ hM_)
    have HF := H16
    rw [upH_all (by omega), show k = (upH l).length by rw [upH_length]; omega] at HF
    rw [show k = (upH l).length by rw [upH_length]; omega]
    exact ⟨_, _, rfl, HF⟩
  · skip
    have hb21f := of_decide_eq_true hb21
    refine G.yes rfl ?_
    refine G.skipK hK18 (fun _ _ h => h) ?_
    refine G.seqK fun K24 hK25 => ?_
    refine G.block ?_
    refine G.seqK fun K26 hK27 => ?_
    refine G.region ?_
    refine GL.run (j := 5) 5 [0, 3, 4, 16] [(0, .slice A l.length c), (3, .slice A_ k c_), (4, .int .i64 (((2 * k) : Nat) : Int)), (16, .bool (decide ((IntKind.i64.wrap ((((2 * k) : Nat) : Int) + 1)) < (l.length : Int))))] (by kernel_rfl) rfl ?_
    have e28 : (IntKind.i64.wrap ((((2 * k) : Nat) : Int) + 1)) = (((2 * k) + 1 : Nat) : Int) := by rw [in_i64 (by omega)]; omega
    refine GL.eq (M' := [(0, .slice A l.length c), (3, .slice A_ k c_), (4, .int .i64 (((2 * k) : Nat) : Int)), (16, .bool (decide ((((2 * k) + 1 : Nat) : Int) < (l.length : Int))))]) (by rw [e28]) ?_
    clear e28
    refine GL.k rfl hK27 (fun _ _ h => h) ?_
    cases hb29 : (decide ((((2 * k) + 1 : Nat) : Int) < (l.length : Int)))
    · skip
      have hb29f := of_decide_eq_false hb29
      refine G.no rfl ?_
      refine G.heldP (Hp w [] []) (by kernel_rfl) (by kernel_rfl) (fun c_ a_ d_ v_ w_ h_ => hPan c_ a_ d_ v_ w_ h_) ?_
      have H30 := H16.drew
      generalize ({ w14 with drawn := w14.drawn + 1 } : World) = w31 at H30 ⊢
      have hS32 : Hp w [] [] w31 := H30.sub (List.Sublist.cons _ (List.Sublist.slnil))
      refine GP.run [0, 1, 2] [0, 3, 4, 30, 31, 32] [(0, .slice A l.length c), (3, .slice A_ k c_), (4, .int .i64 (((2 * k) : Nat) : Int)), (30, .slice A_ k c_), (31, .slice A l.length c), (32, .int .i64 (((2 * k) : Nat) : Int))] [0, 1, 2] (by kernel_rfl) rfl hS32 ?_
      refine GP.sem 3 (fun w_ H_ => run_idxRdN (P := Try.prog) (k := .i64) (t := 33) (sz := 32) (A := A) (len := l.length) (cap := c) (j := (2 * k)) (by kernel_rfl) rfl (hx.hp H_) (by rw [by8_length]; exact flat8_length hok) (by decide) (by omega)) [0, 3, 4, 30, 33] [(0, .slice A l.length c), (3, .slice A_ k c_), (4, .int .i64 (((2 * k) : Nat) : Int)), (30, .slice A_ k c_), (33, .pointer (Option.map (fun x => Addr.add x ((2 * k) * 32)) A))] (by kernel_rfl) (by kernel_rfl) (by kernel_rfl) hS32 ?_
      refine GP.sem 4 (fun w_ H_ => run_ldRdA (P := Try.prog) (ty := 24) (m := 32) (o := ((2 * k) * 32)) (A := A) (sub := by8 (l.getD (2 * k) [])) (by kernel_rfl) (hx.hp H_) (flat8_sub hok (by omega)) (by rw [by8_length, ok32_at hok (by omega)]) (by decide)) [0, 3, 4, 30, 34] [(0, .slice A l.length c), (3, .slice A_ k c_), (4, .int .i64 (((2 * k) : Nat) : Int)), (30, .slice A_ k c_), (34, .agg (by8 (l.getD (2 * k) [])).toArray)] (by kernel_rfl) (by kernel_rfl) (by kernel_rfl) hS32 ?_
      refine GP.run [5, 6] [0, 3, 4, 30, 34, 35, 36] [(0, .slice A l.length c), (3, .slice A_ k c_), (4, .int .i64 (((2 * k) : Nat) : Int)), (30, .slice A_ k c_), (34, .agg (by8 (l.getD (2 * k) [])).toArray), (35, .slice A l.length c), (36, .int .i64 (((2 * k) : Nat) : Int))] [0, 1, 2, 3, 4, 5, 6] (by kernel_rfl) rfl hS32 ?_
      refine GP.sem 7 (fun w_ H_ => run_idxRdN (P := Try.prog) (k := .i64) (t := 33) (sz := 32) (A := A) (len := l.length) (cap := c) (j := (2 * k)) (by kernel_rfl) rfl (hx.hp H_) (by rw [by8_length]; exact flat8_length hok) (by decide) (by omega)) [0, 3, 4, 30, 34, 37] [(0, .slice A l.length c), (3, .slice A_ k c_), (4, .int .i64 (((2 * k) : Nat) : Int)), (30, .slice A_ k c_), (34, .agg (by8 (l.getD (2 * k) [])).toArray), (37, .pointer (Option.map (fun x => Addr.add x ((2 * k) * 32)) A))] (by kernel_rfl) (by kernel_rfl) (by kernel_rfl) hS32 ?_
      refine GP.sem 8 (fun w_ H_ => run_ldRdA (P := Try.prog) (ty := 24) (m := 32) (o := ((2 * k) * 32)) (A := A) (sub := by8 (l.getD (2 * k) [])) (by kernel_rfl) (hx.hp H_) (flat8_sub hok (by omega)) (by rw [by8_length, ok32_at hok (by omega)]) (by decide)) [0, 3, 4, 30, 34, 38] [(0, .slice A l.length c), (3, .slice A_ k c_), (4, .int .i64 (((2 * k) : Nat) : Int)), (30, .slice A_ k c_), (34, .agg (by8 (l.getD (2 * k) [])).toArray), (38, .agg (by8 (l.getD (2 * k) [])).toArray)] (by kernel_rfl) (by kernel_rfl) (by kernel_rfl) hS32 ?_
      refine GP.call 9 (RefBoth_calls (l.getD (2 * k) []) (l.getD (2 * k) []) (by rw [ok32_at hok (by omega)]) (by rw [ok32_at hok (by omega)]) w31) (by kernel_rfl) (by kernel_rfl) (fun e_ w33 hR => ?_)
      obtain ⟨rfl, H35⟩ := hR
      have H34 : Hp w [] [.row A_ k c_ 24 32 (by8 (flat8 ((upH l).take k)))] w33 := H30.callNil H35
      have hS36 : Hp w [] [] w33 := H34.sub (List.Sublist.cons _ (List.Sublist.slnil))
      refine ⟨_, rfl, hS36, [0, 3, 4, 30, 39], [(0, .slice A l.length c), (3, .slice A_ k c_), (4, .int .i64 (((2 * k) : Nat) : Int)), (30, .slice A_ k c_), (39, .agg (by8 (bothH (l.getD (2 * k) []) (l.getD (2 * k) []))).toArray)], by kernel_rfl, ?_⟩
      obtain ⟨p37, w38, r39, H40⟩ := H34.madeRow (P := Try.prog) (Instr.buildSlice 33 1 #[(0, .agg (by8 (bothH (l.getD (2 * k) []) (l.getD (2 * k) []))).toArray)]) (fun b_ => .slice (some ⟨b_, 0, none⟩) 1 1) (by8 (bothH (l.getD (2 * k) []) (l.getD (2 * k) []))) 24 1 1 32 (built1_33 (bothH (l.getD (2 * k) []) (l.getD (2 * k) [])) (by rw [bothH_length])) (by decide) (by decide) (by rw [by8_length, bothH_length])
      rw [List.take_of_length_le (show (by8 (bothH (l.getD (2 * k) []) (l.getD (2 * k) []))).length ≤ 1 * 32 from Nat.le_of_eq (by rw [by8_length, bothH_length]))] at H40
      have H40 : Hp w [] [.row A_ k c_ 24 32 (by8 (flat8 ((upH l).take k))), .row (some ⟨p37, 0, none⟩) 1 1 24 32 (by8 (bothH (l.getD (2 * k) []) (l.getD (2 * k) [])))] w38 := H40
      have hS41 : Hp w [] [] w38 := H40.sub (List.Sublist.cons _ (List.Sublist.cons _ (List.Sublist.slnil)))
      refine GP.made 10 r39 [0, 3, 4, 30, 40] [(0, .slice A l.length c), (3, .slice A_ k c_), (4, .int .i64 (((2 * k) : Nat) : Int)), (30, .slice A_ k c_), (40, .slice (some ⟨p37, 0, none⟩) 1 1)] (by kernel_rfl) (by kernel_rfl) (by kernel_rfl) hS41 ?_
      obtain ⟨A42, c43, w44, r45, H46⟩ := H40.append (P := Try.prog) (e := 24) (sz := 32) (by_ := 32) (n := k) (c := c_) (m := 1) (d := 1) (t := 33) (ty := 33) (xs := by8 (flat8 ((upH l).take k))) (news := by8 (bothH (l.getD (2 * k) []) (l.getD (2 * k) []))) 0 rfl (by kernel_rfl) (H40.rdRowN 1 rfl) (by rw [by8_length, bothH_length]) (by8_one _) (by omega) (by simp only [maxLen]; omega)
      rw [← by8_append] at H46
      have H46 : Hp w [] [.row A42 (k + 1) c43 24 32 (by8 ((flat8 ((upH l).take k)) ++ (bothH (l.getD (2 * k) []) (l.getD (2 * k) [])))), .row (some ⟨p37, 0, none⟩) 1 1 24 32 (by8 (bothH (l.getD (2 * k) []) (l.getD (2 * k) [])))] w44 := H46
      have hS47 : Hp w [] [] w44 := H46.sub (List.Sublist.cons _ (List.Sublist.cons _ (List.Sublist.slnil)))
      refine GP.made 11 r45 [0, 3, 4, 41] [(0, .slice A l.length c), (3, .slice A_ k c_), (4, .int .i64 (((2 * k) : Nat) : Int)), (41, .slice A42 (k + 1) c43)] (by kernel_rfl) (by kernel_rfl) (by kernel_rfl) hS47 ?_
      refine GP.run [12] [0, 3, 4] [(0, .slice A l.length c), (3, .slice A42 (k + 1) c43), (4, .int .i64 (((2 * k) : Nat) : Int))] [0, 1, 2, 3, 4, 5, 6, 7, 8, 9, 10, 11, 12] (by kernel_rfl) rfl hS47 ?_
      refine GP.k (by kernel_rfl) hK25 (fun _ _ h => h) ?_
      refine G.region ?_
      refine GL.run (j := 3) 3 [0, 3, 4] [(0, .slice A l.length c), (3, .slice A42 (k + 1) c43), (4, .int .i64 (IntKind.i64.wrap ((((2 * k) : Nat) : Int) + 2)))] (by kernel_rfl) rfl ?_
      have e48 : (IntKind.i64.wrap ((((2 * k) : Nat) : Int) + 2)) = (((2 * k) + 2 : Nat) : Int) := by rw [in_i64 (by omega)]; omega
      refine GL.eq (M' := [(0, .slice A l.length c), (3, .slice A42 (k + 1) c43), (4, .int .i64 (((2 * k) + 2 : Nat) : Int))]) (by rw [e48]) ?_
      clear e48
      have H49 : Hp w [] [.row A42 (k + 1) c43 24 32 (by8 ((flat8 ((upH l).take k)) ++ (bothH (l.getD (2 * k) []) (l.getD (2 * k) []))))] w44 := H46.sub (List.Sublist.cons_cons _ (List.Sublist.cons _ (List.Sublist.slnil)))
      have H50 : Hp w [] [.row A42 (k + 1) c43 24 32 (by8 (flat8 ((upH l).take (k + 1))))] w44 := by rw [upH_next (by omega), if_neg (by omega), flat8_snoc]; exact H49
      refine GL.fit (ts := [0, 3, 4]) (M' := [(0, .slice A l.length c), (3, .slice A42 (k + 1) c43), (4, .int .i64 (((2 * k) + 2 : Nat) : Int))]) (by kernel_rfl) ?_
      refine GL.eq (M' := [(0, .slice A l.length c), (3, .slice A42 (k + 1) c43), (4, .int .i64 (((2 * (k + 1)) : Nat) : Int))]) (by rw [show 2 * k + 2 = 2 * (k + 1) by omega]) ?_
      exact GL.again ⟨(k + 1), A42, c43⟩ [0, 3, 4] rfl (by kernel_rfl) (by show (l.length + 1) / 2 - (k + 1) < (l.length + 1) / 2 - k; omega) ⟨by omega, H50⟩
    · skip
      have hb29f := of_decide_eq_true hb29
      refine G.yes rfl ?_
      refine G.heldP (Hp w [] []) (by kernel_rfl) (by kernel_rfl) (fun c_ a_ d_ v_ w_ h_ => hPan c_ a_ d_ v_ w_ h_) ?_
      have H51 := H16.drew
      generalize ({ w14 with drawn := w14.drawn + 1 } : World) = w52 at H51 ⊢
      have hS53 : Hp w [] [] w52 := H51.sub (List.Sublist.cons _ (List.Sublist.slnil))
      refine GP.run [0, 1, 2] [0, 3, 4, 17, 18, 19] [(0, .slice A l.length c), (3, .slice A_ k c_), (4, .int .i64 (((2 * k) : Nat) : Int)), (17, .slice A_ k c_), (18, .slice A l.length c), (19, .int .i64 (((2 * k) : Nat) : Int))] [0, 1, 2] (by kernel_rfl) rfl hS53 ?_
      refine GP.sem 3 (fun w_ H_ => run_idxRdN (P := Try.prog) (k := .i64) (t := 33) (sz := 32) (A := A) (len := l.length) (cap := c) (j := (2 * k)) (by kernel_rfl) rfl (hx.hp H_) (by rw [by8_length]; exact flat8_length hok) (by decide) (by omega)) [0, 3, 4, 17, 20] [(0, .slice A l.length c), (3, .slice A_ k c_), (4, .int .i64 (((2 * k) : Nat) : Int)), (17, .slice A_ k c_), (20, .pointer (Option.map (fun x => Addr.add x ((2 * k) * 32)) A))] (by kernel_rfl) (by kernel_rfl) (by kernel_rfl) hS53 ?_
      refine GP.sem 4 (fun w_ H_ => run_ldRdA (P := Try.prog) (ty := 24) (m := 32) (o := ((2 * k) * 32)) (A := A) (sub := by8 (l.getD (2 * k) [])) (by kernel_rfl) (hx.hp H_) (flat8_sub hok (by omega)) (by rw [by8_length, ok32_at hok (by omega)]) (by decide)) [0, 3, 4, 17, 21] [(0, .slice A l.length c), (3, .slice A_ k c_), (4, .int .i64 (((2 * k) : Nat) : Int)), (17, .slice A_ k c_), (21, .agg (by8 (l.getD (2 * k) [])).toArray)] (by kernel_rfl) (by kernel_rfl) (by kernel_rfl) hS53 ?_
      refine GP.run [5, 6, 7] [0, 3, 4, 17, 21, 22, 24] [(0, .slice A l.length c), (3, .slice A_ k c_), (4, .int .i64 (((2 * k) : Nat) : Int)), (17, .slice A_ k c_), (21, .agg (by8 (l.getD (2 * k) [])).toArray), (22, .slice A l.length c), (24, .int .i64 (IntKind.i64.wrap ((((2 * k) : Nat) : Int) + 1)))] [0, 1, 2, 3, 4, 5, 6, 7] (by kernel_rfl) rfl hS53 ?_
      have e54 : (IntKind.i64.wrap ((((2 * k) : Nat) : Int) + 1)) = (((2 * k) + 1 : Nat) : Int) := by rw [in_i64 (by omega)]; omega
      refine GP.eq (M' := [(0, .slice A l.length c), (3, .slice A_ k c_), (4, .int .i64 (((2 * k) : Nat) : Int)), (17, .slice A_ k c_), (21, .agg (by8 (l.getD (2 * k) [])).toArray), (22, .slice A l.length c), (24, .int .i64 (((2 * k) + 1 : Nat) : Int))]) (by rw [e54]) ?_
      clear e54
      refine GP.sem 8 (fun w_ H_ => run_idxRdN (P := Try.prog) (k := .i64) (t := 33) (sz := 32) (A := A) (len := l.length) (cap := c) (j := (2 * k) + 1) (by kernel_rfl) rfl (hx.hp H_) (by rw [by8_length]; exact flat8_length hok) (by decide) (by omega)) [0, 3, 4, 17, 21, 25] [(0, .slice A l.length c), (3, .slice A_ k c_), (4, .int .i64 (((2 * k) : Nat) : Int)), (17, .slice A_ k c_), (21, .agg (by8 (l.getD (2 * k) [])).toArray), (25, .pointer (Option.map (fun x => Addr.add x (((2 * k) + 1) * 32)) A))] (by kernel_rfl) (by kernel_rfl) (by kernel_rfl) hS53 ?_
      refine GP.sem 9 (fun w_ H_ => run_ldRdA (P := Try.prog) (ty := 24) (m := 32) (o := (((2 * k) + 1) * 32)) (A := A) (sub := by8 (l.getD ((2 * k) + 1) [])) (by kernel_rfl) (hx.hp H_) (flat8_sub hok (by omega)) (by rw [by8_length, ok32_at hok (by omega)]) (by decide)) [0, 3, 4, 17, 21, 26] [(0, .slice A l.length c), (3, .slice A_ k c_), (4, .int .i64 (((2 * k) : Nat) : Int)), (17, .slice A_ k c_), (21, .agg (by8 (l.getD (2 * k) [])).toArray), (26, .agg (by8 (l.getD ((2 * k) + 1) [])).toArray)] (by kernel_rfl) (by kernel_rfl) (by kernel_rfl) hS53 ?_
      refine GP.call 10 (RefBoth_calls (l.getD (2 * k) []) (l.getD ((2 * k) + 1) []) (by rw [ok32_at hok (by omega)]) (by rw [ok32_at hok (by omega)]) w52) (by kernel_rfl) (by kernel_rfl) (fun e_ w55 hR => ?_)
      obtain ⟨rfl, H57⟩ := hR
      have H56 : Hp w [] [.row A_ k c_ 24 32 (by8 (flat8 ((upH l).take k)))] w55 := H51.callNil H57
      have hS58 : Hp w [] [] w55 := H56.sub (List.Sublist.cons _ (List.Sublist.slnil))
      refine ⟨_, rfl, hS58, [0, 3, 4, 17, 27], [(0, .slice A l.length c), (3, .slice A_ k c_), (4, .int .i64 (((2 * k) : Nat) : Int)), (17, .slice A_ k c_), (27, .agg (by8 (bothH (l.getD (2 * k) []) (l.getD ((2 * k) + 1) []))).toArray)], by kernel_rfl, ?_⟩
      obtain ⟨p59, w60, r61, H62⟩ := H56.madeRow (P := Try.prog) (Instr.buildSlice 33 1 #[(0, .agg (by8 (bothH (l.getD (2 * k) []) (l.getD ((2 * k) + 1) []))).toArray)]) (fun b_ => .slice (some ⟨b_, 0, none⟩) 1 1) (by8 (bothH (l.getD (2 * k) []) (l.getD ((2 * k) + 1) []))) 24 1 1 32 (built1_33 (bothH (l.getD (2 * k) []) (l.getD ((2 * k) + 1) [])) (by rw [bothH_length])) (by decide) (by decide) (by rw [by8_length, bothH_length])
      rw [List.take_of_length_le (show (by8 (bothH (l.getD (2 * k) []) (l.getD ((2 * k) + 1) []))).length ≤ 1 * 32 from Nat.le_of_eq (by rw [by8_length, bothH_length]))] at H62
      have H62 : Hp w [] [.row A_ k c_ 24 32 (by8 (flat8 ((upH l).take k))), .row (some ⟨p59, 0, none⟩) 1 1 24 32 (by8 (bothH (l.getD (2 * k) []) (l.getD ((2 * k) + 1) [])))] w60 := H62
      have hS63 : Hp w [] [] w60 := H62.sub (List.Sublist.cons _ (List.Sublist.cons _ (List.Sublist.slnil)))
      refine GP.made 11 r61 [0, 3, 4, 17, 28] [(0, .slice A l.length c), (3, .slice A_ k c_), (4, .int .i64 (((2 * k) : Nat) : Int)), (17, .slice A_ k c_), (28, .slice (some ⟨p59, 0, none⟩) 1 1)] (by kernel_rfl) (by kernel_rfl) (by kernel_rfl) hS63 ?_
      obtain ⟨A64, c65, w66, r67, H68⟩ := H62.append (P := Try.prog) (e := 24) (sz := 32) (by_ := 32) (n := k) (c := c_) (m := 1) (d := 1) (t := 33) (ty := 33) (xs := by8 (flat8 ((upH l).take k))) (news := by8 (bothH (l.getD (2 * k) []) (l.getD ((2 * k) + 1) []))) 0 rfl (by kernel_rfl) (H62.rdRowN 1 rfl) (by rw [by8_length, bothH_length]) (by8_one _) (by omega) (by simp only [maxLen]; omega)
      rw [← by8_append] at H68
      have H68 : Hp w [] [.row A64 (k + 1) c65 24 32 (by8 ((flat8 ((upH l).take k)) ++ (bothH (l.getD (2 * k) []) (l.getD ((2 * k) + 1) [])))), .row (some ⟨p59, 0, none⟩) 1 1 24 32 (by8 (bothH (l.getD (2 * k) []) (l.getD ((2 * k) + 1) [])))] w66 := H68
      have hS69 : Hp w [] [] w66 := H68.sub (List.Sublist.cons _ (List.Sublist.cons _ (List.Sublist.slnil)))
      refine GP.made 12 r67 [0, 3, 4, 29] [(0, .slice A l.length c), (3, .slice A_ k c_), (4, .int .i64 (((2 * k) : Nat) : Int)), (29, .slice A64 (k + 1) c65)] (by kernel_rfl) (by kernel_rfl) (by kernel_rfl) hS69 ?_
      refine GP.run [13] [0, 3, 4] [(0, .slice A l.length c), (3, .slice A64 (k + 1) c65), (4, .int .i64 (((2 * k) : Nat) : Int))] [0, 1, 2, 3, 4, 5, 6, 7, 8, 9, 10, 11, 12, 13] (by kernel_rfl) rfl hS69 ?_
      refine GP.k (by kernel_rfl) hK25 (fun _ _ h => h) ?_
      refine G.region ?_
      refine GL.run (j := 3) 3 [0, 3, 4] [(0, .slice A l.length c), (3, .slice A64 (k + 1) c65), (4, .int .i64 (IntKind.i64.wrap ((((2 * k) : Nat) : Int) + 2)))] (by kernel_rfl) rfl ?_
      have e70 : (IntKind.i64.wrap ((((2 * k) : Nat) : Int) + 2)) = (((2 * k) + 2 : Nat) : Int) := by rw [in_i64 (by omega)]; omega
      refine GL.eq (M' := [(0, .slice A l.length c), (3, .slice A64 (k + 1) c65), (4, .int .i64 (((2 * k) + 2 : Nat) : Int))]) (by rw [e70]) ?_
      clear e70
      have H71 : Hp w [] [.row A64 (k + 1) c65 24 32 (by8 ((flat8 ((upH l).take k)) ++ (bothH (l.getD (2 * k) []) (l.getD ((2 * k) + 1) []))))] w66 := H68.sub (List.Sublist.cons_cons _ (List.Sublist.cons _ (List.Sublist.slnil)))
      have H72 : Hp w [] [.row A64 (k + 1) c65 24 32 (by8 (flat8 ((upH l).take (k + 1))))] w66 := by rw [upH_next (by omega), if_pos (by omega), flat8_snoc]; exact H71
      refine GL.fit (ts := [0, 3, 4]) (M' := [(0, .slice A l.length c), (3, .slice A64 (k + 1) c65), (4, .int .i64 (((2 * k) + 2 : Nat) : Int))]) (by kernel_rfl) ?_
      refine GL.eq (M' := [(0, .slice A l.length c), (3, .slice A64 (k + 1) c65), (4, .int .i64 (((2 * (k + 1)) : Nat) : Int))]) (by rw [show 2 * k + 2 = 2 * (k + 1) by omega]) ?_
      exact GL.again ⟨(k + 1), A64, c65⟩ [0, 3, 4] rfl (by kernel_rfl) (by show (l.length + 1) / 2 - (k + 1) < (l.length + 1) / 2 - k; omega) ⟨by omega, H72⟩
theorem RefRoot_calls (A : Option Addr) (c : Nat) (l : List (List UInt8)) (w : World) (hx : RdS w A (by8 (flat8 l))) (hok : ok32 l) (hc : l.length ≤ c) (h0 : 0 < l.length) (hl : l.length ≤ 65536) : Calls Try.prog 12 #[.slice A l.length c] w fun e w' => e = .returned (.agg (by8 (rootH l)).toArray) ∧ Hp w [] [] w' := by
  refine calls_G (args := [.slice A l.length c]) Try.func12 rfl Try.ntmps12 rfl ?_
  intro Q0 hRet hNor hPan
  have H := Hp.start w
  have H : Hp w [] [] w := H
  refine G.seqK fun K1 hK2 => ?_
  refine G.region ?_
  obtain ⟨p3, w4, r5, H6⟩ := H.alloc (P := Try.prog) 24 (by8 (List.replicate 32 0)) (by kernel_rfl)
  have H6 : Hp w [] [.blk p3 (by8 (List.replicate 32 0)) 24] w4 := H6
  refine GL.sem (j := 1) (r5) [0, 2] [(0, .slice A l.length c), (2, pt p3 0)] (by kernel_rfl) (by kernel_rfl) rfl ?_
  refine GL.k rfl hK2 (fun _ _ h => h) ?_
  refine G.seqK fun K7 hK8 => ?_
  refine G.block ?_
  refine G.fit [0, 2] (M' := [(0, .slice A l.length c), (2, pt p3 0)]) (by kernel_rfl) ?_
  refine G.loop (X := List (List UInt8) × Option Addr × Nat) (fun ⟨L, A_, c_⟩ => [(0, .slice A_ L.length c_), (2, pt p3 0)]) (fun ⟨L, A_, c_⟩ w_ => (rootH L = rootH l ∧ ok32 L ∧ 0 < L.length ∧ L.length ≤ 65536 ∧ L.length ≤ c_ ∧ RdS w_ A_ (by8 (flat8 L))) ∧ Hp w [] [.blk p3 (by8 (List.replicate 32 0)) 24] w_) (fun ⟨L, A_, c_⟩ => L.length) ⟨l, A, c⟩ [0, 2] (by kernel_rfl) ⟨⟨rfl, hok, by omega, by omega, hc, hx.hp H6⟩, H6⟩ ?_
  rintro ⟨L, A_, c_⟩ w9 ⟨hi10, H11⟩
  refine G.eq (M' := [(0, .slice A_ L.length c_), (2, pt p3 0)]) rfl ?_
  have H11 : Hp w [] [.blk p3 (by8 (List.replicate 32 0)) 24] w9 := H11
  obtain ⟨hroot, hokL, h0L, h16, hcL, hrd⟩ := hi10
  refine G.seqK fun K12 hK13 => ?_
  refine G.seqK fun K14 hK15 => ?_
  refine G.region ?_
  refine GL.run (j := 3) 3 [0, 2, 5] [(0, .slice A_ L.length c_), (2, pt p3 0), (5, .bool (decide (1 < (L.length : Int))))] (by kernel_rfl) rfl ?_
  refine GL.k rfl hK15 (fun _ _ h => h) ?_
  cases hb16 : (decide (1 < (L.length : Int)))
  · skip
    have hb16f := of_decide_eq_false hb16
    refine G.no rfl ?_
    refine G.exitK hK8 (fun _ _ h => h) ?_
    refine G.seqK fun K17 hK18 => ?_
    refine G.region ?_
    refine GL.run (j := 1) 1 [2, 8] [(2, pt p3 0), (8, .slice A_ L.length c_)] (by kernel_rfl) rfl ?_
    refine GL.sem (j := 2) (run_idxRdN (P := Try.prog) (k := .i64) (t := 33) (sz := 32) (A := A_) (len := L.length) (cap := c_) (j := 0) (by kernel_rfl) rfl (hrd) (by rw [by8_length]; exact flat8_length hokL) (by decide) (by omega)) [2, 9] [(2, pt p3 0), (9, .pointer (Option.map (fun x => Addr.add x (0 * 32)) A_))] (by kernel_rfl) (by kernel_rfl) rfl ?_
    refine GL.sem (j := 3) (run_ldRdA (P := Try.prog) (ty := 24) (m := 32) (o := (0 * 32)) (A := A_) (sub := by8 (L.getD 0 [])) (by kernel_rfl) (hrd) (flat8_sub hokL (by omega)) (by rw [by8_length, ok32_at hokL (by omega)]) (by decide)) [2, 10] [(2, pt p3 0), (10, .agg (by8 (L.getD 0 [])).toArray)] (by kernel_rfl) (by kernel_rfl) rfl ?_
    obtain ⟨w19, r20, H21⟩ := H11.stA (P := Try.prog) (o := 0) (vs := by8 (L.getD 0 [])) (ty := 24) (m := 32) 0 rfl (by kernel_rfl) (by rw [by8_length, ok32_at hokL (by omega)]) (Nat.le_of_eq (by rw [Nat.zero_add]; exact ((show (by8 (List.replicate 32 0)).length = 32 from by rw [by8_length]; rfl)).symm)) (by8_one _)
    rw [st_whole (by rw [by8_length]; rfl)] at H21
    have H21 : Hp w [] [.blk p3 (by8 (L.getD 0 [])) 24] w19 := H21
    refine GL.semU (j := 4) r20 [2] [(2, pt p3 0)] (by kernel_rfl) rfl rfl rfl ?_
    refine GL.k rfl hK18 (fun _ _ h => h) ?_
    refine G.ret ?_
    intro F_ hF_ hM_
    refine hRet _ _ (bodyPost_1 rfl (RV.cell rfl (H21.ldA (o := 0) (ty := 24) (m := 32) (sub := by8 (L.getD 0 [])) 0 rfl (by kernel_rfl) (sub_whole (by rw [by8_length, ok32_at hokL (by omega)])) (by rw [by8_length, ok32_at hokL (by omega)]))) ?_ F_ hF_ hM_)
    rw [← hroot, rootH_one (by omega)]
    exact ⟨rfl, H21.sub (List.nil_sublist _)⟩
  · skip
    have hb16f := of_decide_eq_true hb16
    refine G.yes rfl ?_
    refine G.skipK hK13 (fun _ _ h => h) ?_
    refine G.block ?_
    refine G.region ?_
    refine GL.run (j := 1) 1 [2, 6] [(2, pt p3 0), (6, .slice A_ L.length c_)] (by kernel_rfl) rfl ?_
    refine GL.call (j := 2) (RefUp_calls A_ c_ L w9 (hrd) hokL (by omega) (by omega)) (by kernel_rfl) rfl (fun e_ w24 hR => ?_)
    obtain ⟨A22, c23, rfl, H26⟩ := hR
    have H25 : Hp w [] [.blk p3 (by8 (List.replicate 32 0)) 24, .row A22 ((upH L).length) c23 24 32 (by8 (flat8 (upH L)))] w24 := H11.callNew H26
    refine ⟨_, rfl, [2, 7], [(2, pt p3 0), (7, .slice A22 ((upH L).length) c23)], by kernel_rfl, ?_⟩
    refine GL.run (j := 3) 1 [0, 2] [(0, .slice A22 ((upH L).length) c23), (2, pt p3 0)] (by kernel_rfl) rfl ?_
    have hr27 := H25.rdRowN 1 rfl
    have hq28 := (H25.rowLe 1 rfl).1
    have hul := upH_length L
    have H29 : Hp w [] [.blk p3 (by8 (List.replicate 32 0)) 24] w24 := H25.sub (List.Sublist.cons_cons _ (List.Sublist.cons _ (List.Sublist.slnil)))
    exact GL.againB ⟨(upH L), A22, c23⟩ [0, 2] rfl (by kernel_rfl) (by show (upH L).length < L.length; omega) ⟨⟨by rw [← rootH_step (by omega)]; exact hroot, ok32_upH L, by omega, by omega, hq28, hr27⟩, H29⟩
theorem RefWay_calls (A : Option Addr) (c : Nat) (l : List (List UInt8)) (i : Nat) (w : World) (hx : RdS w A (by8 (flat8 l))) (hok : ok32 l) (hc : l.length ≤ c) (h0 : i < l.length) (hl : l.length ≤ 60000) : Calls Try.prog 15 #[.slice A l.length c, .int .i64 (i : Int)] w fun e w' => ∃ B d, e = .returned (.slice B (wayH l i).length d) ∧ Hp w [] [.row B (wayH l i).length d 24 32 (by8 (flat8 (wayH l i)))] w' := by
  refine calls_G (args := [.slice A l.length c, .int .i64 (i : Int)]) Try.func15 rfl Try.ntmps15 rfl ?_
  intro Q0 hRet hNor hPan
  have H := Hp.start w
  have H : Hp w [] [] w := H
  refine G.seqK fun K1 hK2 => ?_
  refine G.region ?_
  refine GL.run (j := 1) 1 [0, 1] [(0, .slice A l.length c), (1, .int .i64 (i : Int))] (by kernel_rfl) rfl ?_
  refine GL.k rfl hK2 (fun _ _ h => h) ?_
  refine G.seqK fun K3 hK4 => ?_
  refine G.region ?_
  obtain ⟨p5, w6, r7, H8⟩ := H.madeRow (P := Try.prog) (Instr.buildSlice 33 0 #[]) (fun b_ => .slice (some ⟨b_, 0, none⟩) 0 0) [] 24 0 0 32 (by kernel_rfl) (by decide) (by decide) rfl
  have H8 : Hp w [] [.row (some ⟨p5, 0, none⟩) 0 0 24 32 (by8 (flat8 []))] w6 := H8
  refine GL.sem (j := 1) (r7) [0, 1, 6] [(0, .slice A l.length c), (1, .int .i64 (i : Int)), (6, .slice (some ⟨p5, 0, none⟩) 0 0)] (by kernel_rfl) (by kernel_rfl) rfl ?_
  refine GL.run (j := 2) 1 [0, 1, 5] [(0, .slice A l.length c), (1, .int .i64 (i : Int)), (5, .slice (some ⟨p5, 0, none⟩) 0 0)] (by kernel_rfl) rfl ?_
  refine GL.k rfl hK4 (fun _ _ h => h) ?_
  refine G.seqK fun K9 hK10 => ?_
  refine G.block ?_
  have H8 : Hp w [] [.row (some ⟨p5, 0, none⟩) 0 0 24 32 (by8 (flat8 []))] w6 := H8
  have H11 : Hp w [] [.row (some ⟨p5, 0, none⟩) 0 0 24 32 (by8 (flat8 []))] w6 := H8
  refine G.fit [0, 1, 5] (M' := [(0, .slice A l.length c), (1, .int .i64 (i : Int)), (5, .slice (some ⟨p5, 0, none⟩) 0 0)]) (by kernel_rfl) ?_
  refine G.loop (X := List (List UInt8) × Option Addr × Nat × List (List UInt8) × Option Addr × Nat × Nat) (fun ⟨L, A_, c_, O, B_, d_, j⟩ => [(0, .slice A_ L.length c_), (1, .int .i64 (j : Int)), (5, .slice B_ O.length d_)]) (fun ⟨L, A_, c_, O, B_, d_, j⟩ w_ => (O ++ wayH L j = wayH l i ∧ ok32 L ∧ 0 < L.length ∧ L.length ≤ 65536 ∧ L.length ≤ c_ ∧ j < L.length ∧ ok32 O ∧ O.length + L.length ≤ 65536 ∧ RdO w_ (ids [.row B_ O.length d_ 24 32 (by8 (flat8 O))]) A_ (by8 (flat8 L))) ∧ Hp w [] [.row B_ O.length d_ 24 32 (by8 (flat8 O))] w_) (fun ⟨L, A_, c_, O, B_, d_, j⟩ => L.length) ⟨l, A, c, [], (some ⟨p5, 0, none⟩), 0, i⟩ [0, 1, 5] (by kernel_rfl) ⟨⟨rfl, hok, by omega, by omega, hc, by omega, ok32_nil, by simp; omega, RdO.mid (A' := [.row (some ⟨p5, 0, none⟩) 0 0 24 32 (by8 (flat8 []))]) (B' := []) (RdO.of hx) H11⟩, H11⟩ ?_
  rintro ⟨L, A_, c_, O, B_, d_, j⟩ w12 ⟨hi13, H14⟩
  refine G.eq (M' := [(0, .slice A_ L.length c_), (1, .int .i64 (j : Int)), (5, .slice B_ O.length d_)]) rfl ?_
  have H14 : Hp w [] [.row B_ O.length d_ 24 32 (by8 (flat8 O))] w12 := H14
  obtain ⟨hway, hokL, h0L, h16, hcL, hjL, hokO, hOl, hrd⟩ := hi13
  have H15 := Hp.startL (A := [.row B_ O.length d_ 24 32 (by8 (flat8 O))]) (B := []) H14
  have H15 : Hp w12 (ids [.row B_ O.length d_ 24 32 (by8 (flat8 O))]) [.row B_ O.length d_ 24 32 (by8 (flat8 O))] w12 := H15
  refine G.seqK fun K16 hK17 => ?_
  refine G.seqK fun K18 hK19 => ?_
  refine G.region ?_
  refine GL.run (j := 3) 3 [0, 1, 5, 9] [(0, .slice A_ L.length c_), (1, .int .i64 (j : Int)), (5, .slice B_ O.length d_), (9, .bool (decide (1 < (L.length : Int))))] (by kernel_rfl) rfl ?_
  refine GL.k rfl hK19 (fun _ _ h => h) ?_
  cases hb20 : (decide (1 < (L.length : Int)))
  · skip
    have hb20f := of_decide_eq_false hb20
    refine G.no rfl ?_
    refine G.exitK hK10 (fun _ _ h => h) ?_
    refine G.seqK fun K21 hK22 => ?_
    refine G.region ?_
    refine GL.run (j := 2) 2 [4] [(4, .slice B_ O.length d_)] (by kernel_rfl) rfl ?_
    refine GL.k rfl hK22 (fun _ _ h => h) ?_
    refine G.ret ?_
    intro F_ hF_ hM_
    refine hRet _ _ (bodyPost_1 rfl (RV.tmp rfl) ?_ F_ hF_ hM_)
    have HF := Hp.callL (A := [.row B_ O.length d_ 24 32 (by8 (flat8 O))]) (B := []) H14 H15
    have ew : O = wayH l i := by rw [← hway, wayH_one (by omega), List.append_nil]
    rw [ew] at HF ⊢
    exact ⟨_, _, rfl, HF⟩
  · skip
    have hb20f := of_decide_eq_true hb20
    refine G.yes rfl ?_
    refine G.skipK hK17 (fun _ _ h => h) ?_
    refine G.block ?_
    refine G.seqK fun K23 hK24 => ?_
    refine G.block ?_
    refine G.seqK fun K25 hK26 => ?_
    refine G.region ?_
    refine GL.run (j := 4) 4 [0, 1, 5, 17] [(0, .slice A_ L.length c_), (1, .int .i64 (j : Int)), (5, .slice B_ O.length d_), (17, .bool ((Int.tmod (j : Int) 2) == 1))] (by kernel_rfl) rfl ?_
    have e27 : (Int.tmod (j : Int) 2) = (((j % 2) : Nat) : Int) := n_rem _ 2
    refine GL.eq (M' := [(0, .slice A_ L.length c_), (1, .int .i64 (j : Int)), (5, .slice B_ O.length d_), (17, .bool ((((j % 2) : Nat) : Int) == 1))]) (by rw [e27]) ?_
    clear e27
    refine GL.k rfl hK26 (fun _ _ h => h) ?_
    cases hb28 : ((((j % 2) : Nat) : Int) == 1)
    · skip
      have hb28f := ne_of_beq_false hb28
      refine G.no rfl ?_
      refine G.seqK fun K29 hK30 => ?_
      refine G.region ?_
      refine GL.run (j := 6) 6 [0, 1, 5, 29] [(0, .slice A_ L.length c_), (1, .int .i64 (j : Int)), (5, .slice B_ O.length d_), (29, .bool (decide ((IntKind.i64.wrap ((j : Int) + 1)) < (L.length : Int))))] (by kernel_rfl) rfl ?_
      have e31 : (IntKind.i64.wrap ((j : Int) + 1)) = ((j + 1 : Nat) : Int) := by rw [in_i64 (by omega)]; omega
      refine GL.eq (M' := [(0, .slice A_ L.length c_), (1, .int .i64 (j : Int)), (5, .slice B_ O.length d_), (29, .bool (decide (((j + 1 : Nat) : Int) < (L.length : Int))))]) (by rw [e31]) ?_
      clear e31
      refine GL.k rfl hK30 (fun _ _ h => h) ?_
      cases hb32 : (decide (((j + 1 : Nat) : Int) < (L.length : Int)))
      · skip
        have hb32f := of_decide_eq_false hb32
        refine G.no rfl ?_
        refine G.region ?_
        refine GL.run (j := 3) 3 [0, 1, 10, 11, 12] [(0, .slice A_ L.length c_), (1, .int .i64 (j : Int)), (10, .slice B_ O.length d_), (11, .slice A_ L.length c_), (12, .int .i64 (j : Int))] (by kernel_rfl) rfl ?_
        refine GL.sem (j := 4) (run_idxRdN (P := Try.prog) (k := .i64) (t := 33) (sz := 32) (A := A_) (len := L.length) (cap := c_) (j := j) (by kernel_rfl) rfl (hrd.hp H15) (by rw [by8_length]; exact flat8_length hokL) (by decide) (by first | omega | (unfold sib; omega))) [0, 1, 10, 13] [(0, .slice A_ L.length c_), (1, .int .i64 (j : Int)), (10, .slice B_ O.length d_), (13, .pointer (Option.map (fun x => Addr.add x (j * 32)) A_))] (by kernel_rfl) (by kernel_rfl) rfl ?_
        refine GL.sem (j := 5) (run_ldRdA (P := Try.prog) (ty := 24) (m := 32) (o := (j * 32)) (A := A_) (sub := by8 (L.getD j [])) (by kernel_rfl) (hrd.hp H15) (flat8_sub hokL (by first | omega | (unfold sib; omega))) (by rw [by8_length, ok32_at hokL (by first | omega | (unfold sib; omega))]) (by decide)) [0, 1, 10, 14] [(0, .slice A_ L.length c_), (1, .int .i64 (j : Int)), (10, .slice B_ O.length d_), (14, .agg (by8 (L.getD j [])).toArray)] (by kernel_rfl) (by kernel_rfl) rfl ?_
        obtain ⟨p33, w34, r35, H36⟩ := H15.madeRow (P := Try.prog) (Instr.buildSlice 33 1 #[(0, .agg (by8 (L.getD j [])).toArray)]) (fun b_ => .slice (some ⟨b_, 0, none⟩) 1 1) (by8 (L.getD j [])) 24 1 1 32 (built1_33 (L.getD j []) (by rw [ok32_at hokL (by first | omega | (unfold sib; omega))])) (by decide) (by decide) (by rw [by8_length, ok32_at hokL (by first | omega | (unfold sib; omega))])
        rw [List.take_of_length_le (show (by8 (L.getD j [])).length ≤ 1 * 32 from Nat.le_of_eq (by rw [by8_length, ok32_at hokL (by first | omega | (unfold sib; omega))]))] at H36
        have H36 : Hp w12 (ids [.row B_ O.length d_ 24 32 (by8 (flat8 O))]) [.row B_ O.length d_ 24 32 (by8 (flat8 O)), .row (some ⟨p33, 0, none⟩) 1 1 24 32 (by8 (L.getD j []))] w34 := H36
        refine GL.sem (j := 6) (r35) [0, 1, 10, 15] [(0, .slice A_ L.length c_), (1, .int .i64 (j : Int)), (10, .slice B_ O.length d_), (15, .slice (some ⟨p33, 0, none⟩) 1 1)] (by kernel_rfl) (by kernel_rfl) rfl ?_
        obtain ⟨A37, c38, w39, r40, H41⟩ := H36.append (P := Try.prog) (e := 24) (sz := 32) (by_ := 32) (n := O.length) (c := d_) (m := 1) (d := 1) (t := 33) (ty := 33) (xs := by8 (flat8 O)) (news := by8 (L.getD j [])) 0 rfl (by kernel_rfl) (H36.rdRowN 1 rfl) (by rw [by8_length, ok32_at hokL (by first | omega | (unfold sib; omega))]) (by8_one _) (by omega) (by simp only [maxLen]; omega)
        rw [← by8_append] at H41
        have H41 : Hp w12 (ids [.row B_ O.length d_ 24 32 (by8 (flat8 O))]) [.row A37 (O.length + 1) c38 24 32 (by8 ((flat8 O) ++ (L.getD j []))), .row (some ⟨p33, 0, none⟩) 1 1 24 32 (by8 (L.getD j []))] w39 := H41
        refine GL.sem (j := 7) (r40) [0, 1, 16] [(0, .slice A_ L.length c_), (1, .int .i64 (j : Int)), (16, .slice A37 (O.length + 1) c38)] (by kernel_rfl) (by kernel_rfl) rfl ?_
        refine GL.run (j := 8) 1 [0, 1, 5] [(0, .slice A_ L.length c_), (1, .int .i64 (j : Int)), (5, .slice A37 (O.length + 1) c38)] (by kernel_rfl) rfl ?_
        refine GL.k rfl hK24 (fun _ _ h => h) ?_
        refine G.seqK fun K42 hK43 => ?_
        refine G.region ?_
        refine GL.run (j := 1) 1 [1, 5, 43] [(1, .int .i64 (j : Int)), (5, .slice A37 (O.length + 1) c38), (43, .slice A_ L.length c_)] (by kernel_rfl) rfl ?_
        refine GL.call (j := 2) (RefUp_calls A_ c_ L w39 (hrd.hp H41) hokL (by omega) (by omega)) (by kernel_rfl) rfl (fun e_ w46 hR => ?_)
        obtain ⟨A44, c45, rfl, H48⟩ := hR
        have H47 : Hp w12 (ids [.row B_ O.length d_ 24 32 (by8 (flat8 O))]) [.row A37 (O.length + 1) c38 24 32 (by8 ((flat8 O) ++ (L.getD j []))), .row (some ⟨p33, 0, none⟩) 1 1 24 32 (by8 (L.getD j [])), .row A44 ((upH L).length) c45 24 32 (by8 (flat8 (upH L)))] w46 := H41.callNew H48
        refine ⟨_, rfl, [1, 5, 44], [(1, .int .i64 (j : Int)), (5, .slice A37 (O.length + 1) c38), (44, .slice A44 ((upH L).length) c45)], by kernel_rfl, ?_⟩
        refine GL.run (j := 3) 1 [0, 1, 5] [(0, .slice A44 ((upH L).length) c45), (1, .int .i64 (j : Int)), (5, .slice A37 (O.length + 1) c38)] (by kernel_rfl) rfl ?_
        refine GL.k rfl hK43 (fun _ _ h => h) ?_
        refine G.region ?_
        refine GL.run (j := 3) 3 [0, 1, 5] [(0, .slice A44 ((upH L).length) c45), (1, .int .i64 (IntKind.i64.wrap (Int.tdiv (j : Int) 2))), (5, .slice A37 (O.length + 1) c38)] (by kernel_rfl) rfl ?_
        have e49 : (IntKind.i64.wrap (Int.tdiv (j : Int) 2)) = (((j / 2) : Nat) : Int) := i_quo (a := j) 2 (by omega)
        refine GL.eq (M' := [(0, .slice A44 ((upH L).length) c45), (1, .int .i64 (((j / 2) : Nat) : Int)), (5, .slice A37 (O.length + 1) c38)]) (by rw [e49]) ?_
        clear e49
        have hq50 := (H47.rowLe 2 rfl).1
        have hul := upH_length L
        have H54 : Hp w12 (ids [.row B_ O.length d_ 24 32 (by8 (flat8 O))]) [.row A37 (O.length + 1) c38 24 32 (by8 ((flat8 O) ++ (L.getD j []))), .row A44 ((upH L).length) c45 24 32 (by8 (flat8 (upH L)))] w46 := H47.sub (List.Sublist.cons_cons _ (List.Sublist.cons _ (List.Sublist.cons_cons _ (List.Sublist.slnil))))
        have hsb : sib j L.length = j := by unfold sib; (try split) <;> omega
        have H52 : Hp w12 (ids [.row B_ O.length d_ 24 32 (by8 (flat8 O))]) [.row A37 ((O ++ [(L.getD (sib j L.length) [])]).length) c38 24 32 (by8 (flat8 (O ++ [(L.getD (sib j L.length) [])]))), .row A44 ((upH L).length) c45 24 32 (by8 (flat8 (upH L)))] w46 := by rw [flat8_snoc, List.length_append, hsb]; exact H54
        have H51 : Hp w [] [.row A37 ((O ++ [(L.getD (sib j L.length) [])]).length) c38 24 32 (by8 (flat8 (O ++ [(L.getD (sib j L.length) [])]))), .row A44 ((upH L).length) c45 24 32 (by8 (flat8 (upH L)))] w46 := Hp.callL (A := [.row B_ O.length d_ 24 32 (by8 (flat8 O))]) (B := []) H14 H52
        have hz53 := RdO.rowN (A' := [.row A37 ((O ++ [(L.getD (sib j L.length) [])]).length) c38 24 32 (by8 (flat8 (O ++ [(L.getD (sib j L.length) [])])))]) (B' := [.row A44 ((upH L).length) c45 24 32 (by8 (flat8 (upH L)))]) H51 0 rfl
        refine GL.fit (ts := [0, 1, 5]) (M' := [(0, .slice A44 ((upH L).length) c45), (1, .int .i64 (((j / 2) : Nat) : Int)), (5, .slice A37 (O.length + 1) c38)]) (by kernel_rfl) ?_
        refine GL.eq (M' := [(0, .slice A44 ((upH L).length) c45), (1, .int .i64 (((j / 2) : Nat) : Int)), (5, .slice A37 ((O ++ [(L.getD (sib j L.length) [])]).length) c38)]) (by rw [List.length_append]; rfl) ?_
        exact GL.againB ⟨(upH L), A44, c45, (O ++ [(L.getD (sib j L.length) [])]), A37, c38, (j / 2)⟩ [0, 1, 5] rfl (by kernel_rfl) (by show (upH L).length < L.length; omega) ⟨⟨by rw [List.append_assoc, List.cons_append, List.nil_append, ← wayH_step (by omega)]; exact hway, ok32_upH L, by omega, by omega, hq50, by omega, ok32_snoc hokO (ok32_at hokL (by unfold sib; omega)), by rw [List.length_append, List.length_singleton]; omega, hz53⟩, (H51.sub (List.Sublist.cons_cons _ (List.Sublist.cons _ (List.Sublist.slnil))))⟩
      · skip
        have hb32f := of_decide_eq_true hb32
        refine G.yes rfl ?_
        refine G.region ?_
        refine GL.run (j := 4) 4 [0, 1, 35, 36, 38] [(0, .slice A_ L.length c_), (1, .int .i64 (j : Int)), (35, .slice B_ O.length d_), (36, .slice A_ L.length c_), (38, .int .i64 (IntKind.i64.wrap ((j : Int) + 1)))] (by kernel_rfl) rfl ?_
        have e55 : (IntKind.i64.wrap ((j : Int) + 1)) = ((j + 1 : Nat) : Int) := by rw [in_i64 (by omega)]; omega
        refine GL.eq (M' := [(0, .slice A_ L.length c_), (1, .int .i64 (j : Int)), (35, .slice B_ O.length d_), (36, .slice A_ L.length c_), (38, .int .i64 ((j + 1 : Nat) : Int))]) (by rw [e55]) ?_
        clear e55
        refine GL.sem (j := 5) (run_idxRdN (P := Try.prog) (k := .i64) (t := 33) (sz := 32) (A := A_) (len := L.length) (cap := c_) (j := j + 1) (by kernel_rfl) rfl (hrd.hp H15) (by rw [by8_length]; exact flat8_length hokL) (by decide) (by first | omega | (unfold sib; omega))) [0, 1, 35, 39] [(0, .slice A_ L.length c_), (1, .int .i64 (j : Int)), (35, .slice B_ O.length d_), (39, .pointer (Option.map (fun x => Addr.add x ((j + 1) * 32)) A_))] (by kernel_rfl) (by kernel_rfl) rfl ?_
        refine GL.sem (j := 6) (run_ldRdA (P := Try.prog) (ty := 24) (m := 32) (o := ((j + 1) * 32)) (A := A_) (sub := by8 (L.getD (j + 1) [])) (by kernel_rfl) (hrd.hp H15) (flat8_sub hokL (by first | omega | (unfold sib; omega))) (by rw [by8_length, ok32_at hokL (by first | omega | (unfold sib; omega))]) (by decide)) [0, 1, 35, 40] [(0, .slice A_ L.length c_), (1, .int .i64 (j : Int)), (35, .slice B_ O.length d_), (40, .agg (by8 (L.getD (j + 1) [])).toArray)] (by kernel_rfl) (by kernel_rfl) rfl ?_
        obtain ⟨p56, w57, r58, H59⟩ := H15.madeRow (P := Try.prog) (Instr.buildSlice 33 1 #[(0, .agg (by8 (L.getD (j + 1) [])).toArray)]) (fun b_ => .slice (some ⟨b_, 0, none⟩) 1 1) (by8 (L.getD (j + 1) [])) 24 1 1 32 (built1_33 (L.getD (j + 1) []) (by rw [ok32_at hokL (by first | omega | (unfold sib; omega))])) (by decide) (by decide) (by rw [by8_length, ok32_at hokL (by first | omega | (unfold sib; omega))])
        rw [List.take_of_length_le (show (by8 (L.getD (j + 1) [])).length ≤ 1 * 32 from Nat.le_of_eq (by rw [by8_length, ok32_at hokL (by first | omega | (unfold sib; omega))]))] at H59
        have H59 : Hp w12 (ids [.row B_ O.length d_ 24 32 (by8 (flat8 O))]) [.row B_ O.length d_ 24 32 (by8 (flat8 O)), .row (some ⟨p56, 0, none⟩) 1 1 24 32 (by8 (L.getD (j + 1) []))] w57 := H59
        refine GL.sem (j := 7) (r58) [0, 1, 35, 41] [(0, .slice A_ L.length c_), (1, .int .i64 (j : Int)), (35, .slice B_ O.length d_), (41, .slice (some ⟨p56, 0, none⟩) 1 1)] (by kernel_rfl) (by kernel_rfl) rfl ?_
        obtain ⟨A60, c61, w62, r63, H64⟩ := H59.append (P := Try.prog) (e := 24) (sz := 32) (by_ := 32) (n := O.length) (c := d_) (m := 1) (d := 1) (t := 33) (ty := 33) (xs := by8 (flat8 O)) (news := by8 (L.getD (j + 1) [])) 0 rfl (by kernel_rfl) (H59.rdRowN 1 rfl) (by rw [by8_length, ok32_at hokL (by first | omega | (unfold sib; omega))]) (by8_one _) (by omega) (by simp only [maxLen]; omega)
        rw [← by8_append] at H64
        have H64 : Hp w12 (ids [.row B_ O.length d_ 24 32 (by8 (flat8 O))]) [.row A60 (O.length + 1) c61 24 32 (by8 ((flat8 O) ++ (L.getD (j + 1) []))), .row (some ⟨p56, 0, none⟩) 1 1 24 32 (by8 (L.getD (j + 1) []))] w62 := H64
        refine GL.sem (j := 8) (r63) [0, 1, 42] [(0, .slice A_ L.length c_), (1, .int .i64 (j : Int)), (42, .slice A60 (O.length + 1) c61)] (by kernel_rfl) (by kernel_rfl) rfl ?_
        refine GL.run (j := 9) 1 [0, 1, 5] [(0, .slice A_ L.length c_), (1, .int .i64 (j : Int)), (5, .slice A60 (O.length + 1) c61)] (by kernel_rfl) rfl ?_
        refine GL.k rfl hK24 (fun _ _ h => h) ?_
        refine G.seqK fun K65 hK66 => ?_
        refine G.region ?_
        refine GL.run (j := 1) 1 [1, 5, 43] [(1, .int .i64 (j : Int)), (5, .slice A60 (O.length + 1) c61), (43, .slice A_ L.length c_)] (by kernel_rfl) rfl ?_
        refine GL.call (j := 2) (RefUp_calls A_ c_ L w62 (hrd.hp H64) hokL (by omega) (by omega)) (by kernel_rfl) rfl (fun e_ w69 hR => ?_)
        obtain ⟨A67, c68, rfl, H71⟩ := hR
        have H70 : Hp w12 (ids [.row B_ O.length d_ 24 32 (by8 (flat8 O))]) [.row A60 (O.length + 1) c61 24 32 (by8 ((flat8 O) ++ (L.getD (j + 1) []))), .row (some ⟨p56, 0, none⟩) 1 1 24 32 (by8 (L.getD (j + 1) [])), .row A67 ((upH L).length) c68 24 32 (by8 (flat8 (upH L)))] w69 := H64.callNew H71
        refine ⟨_, rfl, [1, 5, 44], [(1, .int .i64 (j : Int)), (5, .slice A60 (O.length + 1) c61), (44, .slice A67 ((upH L).length) c68)], by kernel_rfl, ?_⟩
        refine GL.run (j := 3) 1 [0, 1, 5] [(0, .slice A67 ((upH L).length) c68), (1, .int .i64 (j : Int)), (5, .slice A60 (O.length + 1) c61)] (by kernel_rfl) rfl ?_
        refine GL.k rfl hK66 (fun _ _ h => h) ?_
        refine G.region ?_
        refine GL.run (j := 3) 3 [0, 1, 5] [(0, .slice A67 ((upH L).length) c68), (1, .int .i64 (IntKind.i64.wrap (Int.tdiv (j : Int) 2))), (5, .slice A60 (O.length + 1) c61)] (by kernel_rfl) rfl ?_
        have e72 : (IntKind.i64.wrap (Int.tdiv (j : Int) 2)) = (((j / 2) : Nat) : Int) := i_quo (a := j) 2 (by omega)
        refine GL.eq (M' := [(0, .slice A67 ((upH L).length) c68), (1, .int .i64 (((j / 2) : Nat) : Int)), (5, .slice A60 (O.length + 1) c61)]) (by rw [e72]) ?_
        clear e72
        have hq73 := (H70.rowLe 2 rfl).1
        have hul := upH_length L
        have H77 : Hp w12 (ids [.row B_ O.length d_ 24 32 (by8 (flat8 O))]) [.row A60 (O.length + 1) c61 24 32 (by8 ((flat8 O) ++ (L.getD (j + 1) []))), .row A67 ((upH L).length) c68 24 32 (by8 (flat8 (upH L)))] w69 := H70.sub (List.Sublist.cons_cons _ (List.Sublist.cons _ (List.Sublist.cons_cons _ (List.Sublist.slnil))))
        have hsb : sib j L.length = (j + 1) := by unfold sib; (try split) <;> omega
        have H75 : Hp w12 (ids [.row B_ O.length d_ 24 32 (by8 (flat8 O))]) [.row A60 ((O ++ [(L.getD (sib j L.length) [])]).length) c61 24 32 (by8 (flat8 (O ++ [(L.getD (sib j L.length) [])]))), .row A67 ((upH L).length) c68 24 32 (by8 (flat8 (upH L)))] w69 := by rw [flat8_snoc, List.length_append, hsb]; exact H77
        have H74 : Hp w [] [.row A60 ((O ++ [(L.getD (sib j L.length) [])]).length) c61 24 32 (by8 (flat8 (O ++ [(L.getD (sib j L.length) [])]))), .row A67 ((upH L).length) c68 24 32 (by8 (flat8 (upH L)))] w69 := Hp.callL (A := [.row B_ O.length d_ 24 32 (by8 (flat8 O))]) (B := []) H14 H75
        have hz76 := RdO.rowN (A' := [.row A60 ((O ++ [(L.getD (sib j L.length) [])]).length) c61 24 32 (by8 (flat8 (O ++ [(L.getD (sib j L.length) [])])))]) (B' := [.row A67 ((upH L).length) c68 24 32 (by8 (flat8 (upH L)))]) H74 0 rfl
        refine GL.fit (ts := [0, 1, 5]) (M' := [(0, .slice A67 ((upH L).length) c68), (1, .int .i64 (((j / 2) : Nat) : Int)), (5, .slice A60 (O.length + 1) c61)]) (by kernel_rfl) ?_
        refine GL.eq (M' := [(0, .slice A67 ((upH L).length) c68), (1, .int .i64 (((j / 2) : Nat) : Int)), (5, .slice A60 ((O ++ [(L.getD (sib j L.length) [])]).length) c61)]) (by rw [List.length_append]; rfl) ?_
        exact GL.againB ⟨(upH L), A67, c68, (O ++ [(L.getD (sib j L.length) [])]), A60, c61, (j / 2)⟩ [0, 1, 5] rfl (by kernel_rfl) (by show (upH L).length < L.length; omega) ⟨⟨by rw [List.append_assoc, List.cons_append, List.nil_append, ← wayH_step (by omega)]; exact hway, ok32_upH L, by omega, by omega, hq73, by omega, ok32_snoc hokO (ok32_at hokL (by unfold sib; omega)), by rw [List.length_append, List.length_singleton]; omega, hz76⟩, (H74.sub (List.Sublist.cons_cons _ (List.Sublist.cons _ (List.Sublist.slnil))))⟩
    · skip
      have hb28f := eq_of_beq hb28
      refine G.yes rfl ?_
      refine G.region ?_
      refine GL.run (j := 4) 4 [0, 1, 21, 22, 24] [(0, .slice A_ L.length c_), (1, .int .i64 (j : Int)), (21, .slice B_ O.length d_), (22, .slice A_ L.length c_), (24, .int .i64 (IntKind.i64.wrap ((j : Int) - 1)))] (by kernel_rfl) rfl ?_
      have e78 : (IntKind.i64.wrap ((j : Int) - 1)) = (((j - 1) : Nat) : Int) := by rw [in_i64 (by omega)]; omega
      refine GL.eq (M' := [(0, .slice A_ L.length c_), (1, .int .i64 (j : Int)), (21, .slice B_ O.length d_), (22, .slice A_ L.length c_), (24, .int .i64 (((j - 1) : Nat) : Int))]) (by rw [e78]) ?_
      clear e78
      refine GL.sem (j := 5) (run_idxRdN (P := Try.prog) (k := .i64) (t := 33) (sz := 32) (A := A_) (len := L.length) (cap := c_) (j := (j - 1)) (by kernel_rfl) rfl (hrd.hp H15) (by rw [by8_length]; exact flat8_length hokL) (by decide) (by first | omega | (unfold sib; omega))) [0, 1, 21, 25] [(0, .slice A_ L.length c_), (1, .int .i64 (j : Int)), (21, .slice B_ O.length d_), (25, .pointer (Option.map (fun x => Addr.add x ((j - 1) * 32)) A_))] (by kernel_rfl) (by kernel_rfl) rfl ?_
      refine GL.sem (j := 6) (run_ldRdA (P := Try.prog) (ty := 24) (m := 32) (o := ((j - 1) * 32)) (A := A_) (sub := by8 (L.getD (j - 1) [])) (by kernel_rfl) (hrd.hp H15) (flat8_sub hokL (by first | omega | (unfold sib; omega))) (by rw [by8_length, ok32_at hokL (by first | omega | (unfold sib; omega))]) (by decide)) [0, 1, 21, 26] [(0, .slice A_ L.length c_), (1, .int .i64 (j : Int)), (21, .slice B_ O.length d_), (26, .agg (by8 (L.getD (j - 1) [])).toArray)] (by kernel_rfl) (by kernel_rfl) rfl ?_
      obtain ⟨p79, w80, r81, H82⟩ := H15.madeRow (P := Try.prog) (Instr.buildSlice 33 1 #[(0, .agg (by8 (L.getD (j - 1) [])).toArray)]) (fun b_ => .slice (some ⟨b_, 0, none⟩) 1 1) (by8 (L.getD (j - 1) [])) 24 1 1 32 (built1_33 (L.getD (j - 1) []) (by rw [ok32_at hokL (by first | omega | (unfold sib; omega))])) (by decide) (by decide) (by rw [by8_length, ok32_at hokL (by first | omega | (unfold sib; omega))])
      rw [List.take_of_length_le (show (by8 (L.getD (j - 1) [])).length ≤ 1 * 32 from Nat.le_of_eq (by rw [by8_length, ok32_at hokL (by first | omega | (unfold sib; omega))]))] at H82
      have H82 : Hp w12 (ids [.row B_ O.length d_ 24 32 (by8 (flat8 O))]) [.row B_ O.length d_ 24 32 (by8 (flat8 O)), .row (some ⟨p79, 0, none⟩) 1 1 24 32 (by8 (L.getD (j - 1) []))] w80 := H82
      refine GL.sem (j := 7) (r81) [0, 1, 21, 27] [(0, .slice A_ L.length c_), (1, .int .i64 (j : Int)), (21, .slice B_ O.length d_), (27, .slice (some ⟨p79, 0, none⟩) 1 1)] (by kernel_rfl) (by kernel_rfl) rfl ?_
      obtain ⟨A83, c84, w85, r86, H87⟩ := H82.append (P := Try.prog) (e := 24) (sz := 32) (by_ := 32) (n := O.length) (c := d_) (m := 1) (d := 1) (t := 33) (ty := 33) (xs := by8 (flat8 O)) (news := by8 (L.getD (j - 1) [])) 0 rfl (by kernel_rfl) (H82.rdRowN 1 rfl) (by rw [by8_length, ok32_at hokL (by first | omega | (unfold sib; omega))]) (by8_one _) (by omega) (by simp only [maxLen]; omega)
      rw [← by8_append] at H87
      have H87 : Hp w12 (ids [.row B_ O.length d_ 24 32 (by8 (flat8 O))]) [.row A83 (O.length + 1) c84 24 32 (by8 ((flat8 O) ++ (L.getD (j - 1) []))), .row (some ⟨p79, 0, none⟩) 1 1 24 32 (by8 (L.getD (j - 1) []))] w85 := H87
      refine GL.sem (j := 8) (r86) [0, 1, 28] [(0, .slice A_ L.length c_), (1, .int .i64 (j : Int)), (28, .slice A83 (O.length + 1) c84)] (by kernel_rfl) (by kernel_rfl) rfl ?_
      refine GL.run (j := 9) 1 [0, 1, 5] [(0, .slice A_ L.length c_), (1, .int .i64 (j : Int)), (5, .slice A83 (O.length + 1) c84)] (by kernel_rfl) rfl ?_
      refine GL.k rfl hK24 (fun _ _ h => h) ?_
      refine G.seqK fun K88 hK89 => ?_
      refine G.region ?_
      refine GL.run (j := 1) 1 [1, 5, 43] [(1, .int .i64 (j : Int)), (5, .slice A83 (O.length + 1) c84), (43, .slice A_ L.length c_)] (by kernel_rfl) rfl ?_
      refine GL.call (j := 2) (RefUp_calls A_ c_ L w85 (hrd.hp H87) hokL (by omega) (by omega)) (by kernel_rfl) rfl (fun e_ w92 hR => ?_)
      obtain ⟨A90, c91, rfl, H94⟩ := hR
      have H93 : Hp w12 (ids [.row B_ O.length d_ 24 32 (by8 (flat8 O))]) [.row A83 (O.length + 1) c84 24 32 (by8 ((flat8 O) ++ (L.getD (j - 1) []))), .row (some ⟨p79, 0, none⟩) 1 1 24 32 (by8 (L.getD (j - 1) [])), .row A90 ((upH L).length) c91 24 32 (by8 (flat8 (upH L)))] w92 := H87.callNew H94
      refine ⟨_, rfl, [1, 5, 44], [(1, .int .i64 (j : Int)), (5, .slice A83 (O.length + 1) c84), (44, .slice A90 ((upH L).length) c91)], by kernel_rfl, ?_⟩
      refine GL.run (j := 3) 1 [0, 1, 5] [(0, .slice A90 ((upH L).length) c91), (1, .int .i64 (j : Int)), (5, .slice A83 (O.length + 1) c84)] (by kernel_rfl) rfl ?_
      refine GL.k rfl hK89 (fun _ _ h => h) ?_
      refine G.region ?_
      refine GL.run (j := 3) 3 [0, 1, 5] [(0, .slice A90 ((upH L).length) c91), (1, .int .i64 (IntKind.i64.wrap (Int.tdiv (j : Int) 2))), (5, .slice A83 (O.length + 1) c84)] (by kernel_rfl) rfl ?_
      have e95 : (IntKind.i64.wrap (Int.tdiv (j : Int) 2)) = (((j / 2) : Nat) : Int) := i_quo (a := j) 2 (by omega)
      refine GL.eq (M' := [(0, .slice A90 ((upH L).length) c91), (1, .int .i64 (((j / 2) : Nat) : Int)), (5, .slice A83 (O.length + 1) c84)]) (by rw [e95]) ?_
      clear e95
      have hq96 := (H93.rowLe 2 rfl).1
      have hul := upH_length L
      have H100 : Hp w12 (ids [.row B_ O.length d_ 24 32 (by8 (flat8 O))]) [.row A83 (O.length + 1) c84 24 32 (by8 ((flat8 O) ++ (L.getD (j - 1) []))), .row A90 ((upH L).length) c91 24 32 (by8 (flat8 (upH L)))] w92 := H93.sub (List.Sublist.cons_cons _ (List.Sublist.cons _ (List.Sublist.cons_cons _ (List.Sublist.slnil))))
      have hsb : sib j L.length = (j - 1) := by unfold sib; (try split) <;> omega
      have H98 : Hp w12 (ids [.row B_ O.length d_ 24 32 (by8 (flat8 O))]) [.row A83 ((O ++ [(L.getD (sib j L.length) [])]).length) c84 24 32 (by8 (flat8 (O ++ [(L.getD (sib j L.length) [])]))), .row A90 ((upH L).length) c91 24 32 (by8 (flat8 (upH L)))] w92 := by rw [flat8_snoc, List.length_append, hsb]; exact H100
      have H97 : Hp w [] [.row A83 ((O ++ [(L.getD (sib j L.length) [])]).length) c84 24 32 (by8 (flat8 (O ++ [(L.getD (sib j L.length) [])]))), .row A90 ((upH L).length) c91 24 32 (by8 (flat8 (upH L)))] w92 := Hp.callL (A := [.row B_ O.length d_ 24 32 (by8 (flat8 O))]) (B := []) H14 H98
      have hz99 := RdO.rowN (A' := [.row A83 ((O ++ [(L.getD (sib j L.length) [])]).length) c84 24 32 (by8 (flat8 (O ++ [(L.getD (sib j L.length) [])])))]) (B' := [.row A90 ((upH L).length) c91 24 32 (by8 (flat8 (upH L)))]) H97 0 rfl
      refine GL.fit (ts := [0, 1, 5]) (M' := [(0, .slice A90 ((upH L).length) c91), (1, .int .i64 (((j / 2) : Nat) : Int)), (5, .slice A83 (O.length + 1) c84)]) (by kernel_rfl) ?_
      refine GL.eq (M' := [(0, .slice A90 ((upH L).length) c91), (1, .int .i64 (((j / 2) : Nat) : Int)), (5, .slice A83 ((O ++ [(L.getD (sib j L.length) [])]).length) c84)]) (by rw [List.length_append]; rfl) ?_
      exact GL.againB ⟨(upH L), A90, c91, (O ++ [(L.getD (sib j L.length) [])]), A83, c84, (j / 2)⟩ [0, 1, 5] rfl (by kernel_rfl) (by show (upH L).length < L.length; omega) ⟨⟨by rw [List.append_assoc, List.cons_append, List.nil_append, ← wayH_step (by omega)]; exact hway, ok32_upH L, by omega, by omega, hq96, by omega, ok32_snoc hokO (ok32_at hokL (by unfold sib; omega)), by rw [List.length_append, List.length_singleton]; omega, hz99⟩, (H97.sub (List.Sublist.cons_cons _ (List.Sublist.cons _ (List.Sublist.slnil))))⟩
theorem Plain_calls (A : Option Addr) (c : Nat) (l : List (List UInt8)) (w : World) (hx : RdS w A (by8 (flat8 l))) (hok : ok32 l) (hc : l.length ≤ c) (hl : l.length ≤ 65536) : Calls Try.prog 13 #[.slice A l.length c] w fun e w' => ∃ A' c', e = .returned (.slice A' l.length c') ∧ Hp w [] [.row A' l.length c' 24 32 (by8 (flat8 l))] w' := by
  refine calls_G (args := [.slice A l.length c]) Try.func13 rfl Try.ntmps13 rfl ?_
  intro Q0 hRet hNor hPan
  have H := Hp.start w
  have H : Hp w [] [] w := H
  refine G.seqK fun K1 hK2 => ?_
  refine G.region ?_
  refine GL.run (j := 1) 1 [0] [(0, .slice A l.length c)] (by kernel_rfl) rfl ?_
  refine GL.k rfl hK2 (fun _ _ h => h) ?_
  refine G.seqK fun K3 hK4 => ?_
  refine G.region ?_
  refine GL.run (j := 1) 1 [0, 3] [(0, .slice A l.length c), (3, .slice none 0 0)] (by kernel_rfl) rfl ?_
  refine GL.k rfl hK4 (fun _ _ h => h) ?_
  refine G.seqK fun K5 hK6 => ?_
  refine G.seqK fun K7 hK8 => ?_
  refine G.region ?_
  refine GL.run (j := 3) 3 [3, 6, 7, 8] [(3, .slice none 0 0), (6, .slice A l.length c), (7, .int .i64 (l.length : Int)), (8, .int .i64 0)] (by kernel_rfl) rfl ?_
  refine GL.k rfl hK8 (fun _ _ h => h) ?_
  refine G.block ?_
  have H9 := H.rowNil 24 32
  have H9 : Hp w [] [.row none 0 0 24 32 (by8 (flat8 (List.take 0 l)))] w := H9
  refine G.fit [3, 6, 7, 8] (M' := [(3, .slice none 0 0), (6, .slice A l.length c), (7, .int .i64 (l.length : Int)), (8, .int .i64 0)]) (by kernel_rfl) ?_
  refine G.loop (X := Nat × Option Addr × Nat) (fun ⟨k, A_, c_⟩ => [(3, .slice A_ k c_), (6, .slice A l.length c), (7, .int .i64 (l.length : Int)), (8, .int .i64 (k : Int))]) (fun ⟨k, A_, c_⟩ w_ => (k ≤ l.length) ∧ Hp w [] [.row A_ k c_ 24 32 (by8 (flat8 (List.take k l)))] w_) (fun ⟨k, A_, c_⟩ => l.length - k) ⟨0, none, 0⟩ [3, 6, 7, 8] (by kernel_rfl) ⟨by omega, H9⟩ ?_
  rintro ⟨k, A_, c_⟩ w10 ⟨hi11, H12⟩
  refine G.eq (M' := [(3, .slice A_ k c_), (6, .slice A l.length c), (7, .int .i64 (l.length : Int)), (8, .int .i64 (k : Int))]) rfl ?_
  have H12 : Hp w [] [.row A_ k c_ 24 32 (by8 (flat8 (List.take k l)))] w10 := H12
  have hkl := hi11
  refine G.seqK fun K13 hK14 => ?_
  refine G.region ?_
  refine GL.run (j := 1) 1 [3, 6, 7, 8, 9] [(3, .slice A_ k c_), (6, .slice A l.length c), (7, .int .i64 (l.length : Int)), (8, .int .i64 (k : Int)), (9, .bool (decide ((k : Int) < (l.length : Int))))] (by kernel_rfl) rfl ?_
  refine GL.k rfl hK14 (fun _ _ h => h) ?_
  refine G.seqK fun K15 hK16 => ?_
  cases hb17 : (decide ((k : Int) < (l.length : Int)))
  · skip
    have hb17f := of_decide_eq_false hb17
    refine G.no rfl ?_
    refine G.exitK hK6 (fun _ _ h => h) ?_
    refine G.seqK fun K18 hK19 => ?_
    refine G.region ?_
    refine GL.run (j := 2) 2 [2] [(2, .slice A_ k c_)] (by kernel_rfl) rfl ?_
    refine GL.k rfl hK19 (fun _ _ h => h) ?_
    refine G.ret ?_
    intro F_ hF_ hM_
    refine hRet _ _ (bodyPost_1 rfl (RV.tmp rfl) ?_ F_ hF_ hM_)
    have HF := H12
    rw [List.take_of_length_le (by omega), show k = l.length by omega] at HF
    rw [show k = l.length by omega]
    exact ⟨_, _, rfl, HF⟩
  · skip
    have hb17f := of_decide_eq_true hb17
    refine G.yes rfl ?_
    refine G.skipK hK16 (fun _ _ h => h) ?_
    refine G.seqK fun K20 hK21 => ?_
    refine G.block ?_
    refine G.seqK fun K22 hK23 => ?_
    refine G.region ?_
    refine GL.sem (j := 1) (run_idxRdN (P := Try.prog) (k := .i64) (t := 22) (sz := 32) (A := A) (len := l.length) (cap := c) (j := k) (by kernel_rfl) rfl (hx.hp H12) (by rw [by8_length]; exact flat8_length hok) (by decide) (by omega)) [3, 6, 7, 8, 10] [(3, .slice A_ k c_), (6, .slice A l.length c), (7, .int .i64 (l.length : Int)), (8, .int .i64 (k : Int)), (10, .pointer (Option.map (fun x => Addr.add x (k * 32)) A))] (by kernel_rfl) (by kernel_rfl) rfl ?_
    refine GL.sem (j := 2) (run_ldRdA (P := Try.prog) (ty := 25) (m := 32) (o := (k * 32)) (A := A) (sub := by8 (l.getD k [])) (by kernel_rfl) (hx.hp H12) (flat8_sub hok (by omega)) (by rw [by8_length, ok32_at hok (by omega)]) (by decide)) [3, 6, 7, 8, 11] [(3, .slice A_ k c_), (6, .slice A l.length c), (7, .int .i64 (l.length : Int)), (8, .int .i64 (k : Int)), (11, .agg (by8 (l.getD k [])).toArray)] (by kernel_rfl) (by kernel_rfl) rfl ?_
    obtain ⟨p24, w25, r26, H27⟩ := H12.alloc (P := Try.prog) 25 (by8 (List.replicate 32 0)) (by kernel_rfl)
    have H27 : Hp w [] [.row A_ k c_ 24 32 (by8 (flat8 (List.take k l))), .blk p24 (by8 (List.replicate 32 0)) 25] w25 := H27
    refine GL.sem (j := 3) (r26) [3, 5, 6, 7, 8, 11] [(3, .slice A_ k c_), (5, pt p24 0), (6, .slice A l.length c), (7, .int .i64 (l.length : Int)), (8, .int .i64 (k : Int)), (11, .agg (by8 (l.getD k [])).toArray)] (by kernel_rfl) (by kernel_rfl) rfl ?_
    obtain ⟨w28, r29, H30⟩ := H27.stA (P := Try.prog) (o := 0) (vs := by8 (l.getD k [])) (ty := 25) (m := 32) 1 rfl (by kernel_rfl) (by rw [by8_length, ok32_at hok (by omega)]) (Nat.le_of_eq (by rw [Nat.zero_add]; exact ((show (by8 (List.replicate 32 0)).length = 32 from by rw [by8_length]; rfl)).symm)) (by8_one _)
    rw [st_whole (by rw [by8_length]; rfl)] at H30
    have H30 : Hp w [] [.row A_ k c_ 24 32 (by8 (flat8 (List.take k l))), .blk p24 (by8 (l.getD k [])) 25] w28 := H30
    refine GL.semU (j := 4) r29 [3, 5, 6, 7, 8] [(3, .slice A_ k c_), (5, pt p24 0), (6, .slice A l.length c), (7, .int .i64 (l.length : Int)), (8, .int .i64 (k : Int))] (by kernel_rfl) rfl rfl rfl ?_
    refine GL.k rfl hK23 (fun _ _ h => h) ?_
    refine G.region ?_
    refine GL.run (j := 1) 1 [5, 6, 7, 8, 12] [(5, pt p24 0), (6, .slice A l.length c), (7, .int .i64 (l.length : Int)), (8, .int .i64 (k : Int)), (12, .slice A_ k c_)] (by kernel_rfl) rfl ?_
    refine GL.sem (j := 2) (H30.ldA (o := 0) (ty := 25) (m := 32) (sub := by8 (l.getD k [])) 1 rfl (by kernel_rfl) (sub_whole (by rw [by8_length, ok32_at hok (by omega)])) (by rw [by8_length, ok32_at hok (by omega)])) [6, 7, 8, 12, 13] [(6, .slice A l.length c), (7, .int .i64 (l.length : Int)), (8, .int .i64 (k : Int)), (12, .slice A_ k c_), (13, .agg (by8 (l.getD k [])).toArray)] (by kernel_rfl) (by kernel_rfl) rfl ?_
    obtain ⟨p31, w32, r33, H34⟩ := H30.madeRow (P := Try.prog) (Instr.buildSlice 33 1 #[(0, .agg (by8 (l.getD k [])).toArray)]) (fun b_ => .slice (some ⟨b_, 0, none⟩) 1 1) (by8 (l.getD k [])) 24 1 1 32 (built1_33 (l.getD k []) (by rw [ok32_at hok (by omega)])) (by decide) (by decide) (by rw [by8_length, ok32_at hok (by omega)])
    rw [List.take_of_length_le (show (by8 (l.getD k [])).length ≤ 1 * 32 from Nat.le_of_eq (by rw [by8_length, ok32_at hok (by omega)]))] at H34
    have H34 : Hp w [] [.row A_ k c_ 24 32 (by8 (flat8 (List.take k l))), .blk p24 (by8 (l.getD k [])) 25, .row (some ⟨p31, 0, none⟩) 1 1 24 32 (by8 (l.getD k []))] w32 := H34
    refine GL.sem (j := 3) (r33) [6, 7, 8, 12, 14] [(6, .slice A l.length c), (7, .int .i64 (l.length : Int)), (8, .int .i64 (k : Int)), (12, .slice A_ k c_), (14, .slice (some ⟨p31, 0, none⟩) 1 1)] (by kernel_rfl) (by kernel_rfl) rfl ?_
    obtain ⟨A35, c36, w37, r38, H39⟩ := H34.append (P := Try.prog) (e := 24) (sz := 32) (by_ := 32) (n := k) (c := c_) (m := 1) (d := 1) (t := 33) (ty := 33) (xs := by8 (flat8 (List.take k l))) (news := by8 (l.getD k [])) 0 rfl (by kernel_rfl) (H34.rdRowN 2 rfl) (by rw [by8_length, ok32_at hok (by omega)]) (by8_one _) (by omega) (by simp only [maxLen]; omega)
    rw [← by8_append] at H39
    have H39 : Hp w [] [.row A35 (k + 1) c36 24 32 (by8 ((flat8 (List.take k l)) ++ (l.getD k []))), .blk p24 (by8 (l.getD k [])) 25, .row (some ⟨p31, 0, none⟩) 1 1 24 32 (by8 (l.getD k []))] w37 := H39
    refine GL.sem (j := 4) (r38) [6, 7, 8, 15] [(6, .slice A l.length c), (7, .int .i64 (l.length : Int)), (8, .int .i64 (k : Int)), (15, .slice A35 (k + 1) c36)] (by kernel_rfl) (by kernel_rfl) rfl ?_
    refine GL.run (j := 5) 1 [3, 6, 7, 8] [(3, .slice A35 (k + 1) c36), (6, .slice A l.length c), (7, .int .i64 (l.length : Int)), (8, .int .i64 (k : Int))] (by kernel_rfl) rfl ?_
    refine GL.k rfl hK21 (fun _ _ h => h) ?_
    refine G.region ?_
    refine GL.run (j := 2) 2 [3, 6, 7, 8] [(3, .slice A35 (k + 1) c36), (6, .slice A l.length c), (7, .int .i64 (l.length : Int)), (8, .int .i64 (IntKind.i64.wrap ((k : Int) + 1)))] (by kernel_rfl) rfl ?_
    have e40 : (IntKind.i64.wrap ((k : Int) + 1)) = ((k + 1 : Nat) : Int) := by rw [in_i64 (by omega)]; omega
    refine GL.eq (M' := [(3, .slice A35 (k + 1) c36), (6, .slice A l.length c), (7, .int .i64 (l.length : Int)), (8, .int .i64 ((k + 1 : Nat) : Int))]) (by rw [e40]) ?_
    clear e40
    have H41 : Hp w [] [.row A35 (k + 1) c36 24 32 (by8 ((flat8 (List.take k l)) ++ (l.getD k [])))] w37 := H39.sub (List.Sublist.cons_cons _ (List.Sublist.cons _ (List.Sublist.cons _ (List.Sublist.slnil))))
    have H42 : Hp w [] [.row A35 (k + 1) c36 24 32 (by8 (flat8 (List.take (k + 1) l)))] w37 := by rw [List.take_add_one, getDH (l := l) (j := k) (by omega), Option.toList_some, flat8_snoc]; exact H41
    refine GL.fit (ts := [3, 6, 7, 8]) (M' := [(3, .slice A35 (k + 1) c36), (6, .slice A l.length c), (7, .int .i64 (l.length : Int)), (8, .int .i64 ((k + 1 : Nat) : Int))]) (by kernel_rfl) ?_
    refine GL.eq (M' := [(3, .slice A35 (k + 1) c36), (6, .slice A l.length c), (7, .int .i64 (l.length : Int)), (8, .int .i64 (((k + 1) : Nat) : Int))]) (by rfl) ?_
    exact GL.again ⟨(k + 1), A35, c36⟩ [3, 6, 7, 8] rfl (by kernel_rfl) (by show l.length - (k + 1) < l.length - k; omega) ⟨by omega, H42⟩
theorem Same_calls (A B : Option Addr) (c d : Nat) (a b : List (List UInt8)) (w : World) (hx : RdS w A (by8 (flat8 a))) (hy : RdS w B (by8 (flat8 b))) (hoa : ok32 a) (hob : ok32 b) (hla : a.length ≤ 65536) (hlb : b.length ≤ 65536) : Calls Try.prog 14 #[.slice A a.length c, .slice B b.length d] w fun e w' => e = .returned (.bool (decide (a = b))) ∧ Hp w [] [] w' := by
  refine calls_G (args := [.slice A a.length c, .slice B b.length d]) Try.func14 rfl Try.ntmps14 rfl ?_
  intro Q0 hRet hNor hPan
  have H := Hp.start w
  have H : Hp w [] [] w := H
  refine G.seqK fun K1 hK2 => ?_
  refine G.region ?_
  refine GL.run (j := 1) 1 [0, 1] [(0, .slice A a.length c), (1, .slice B b.length d)] (by kernel_rfl) rfl ?_
  refine GL.k rfl hK2 (fun _ _ h => h) ?_
  refine G.seqK fun K3 hK4 => ?_
  refine G.seqK fun K5 hK6 => ?_
  refine G.region ?_
  refine GL.run (j := 5) 5 [0, 1, 10] [(0, .slice A a.length c), (1, .slice B b.length d), (10, .bool ((a.length : Int) != (b.length : Int)))] (by kernel_rfl) rfl ?_
  refine GL.k rfl hK6 (fun _ _ h => h) ?_
  cases hb7 : ((a.length : Int) != (b.length : Int))
  · skip
    have hb7f : (a.length : Int) = (b.length : Int) := bne_eq_false_iff_eq.1 hb7
    have hab : a.length = b.length := by omega
    refine G.no rfl ?_
    refine G.skipK hK4 (fun _ _ h => h) ?_
    refine G.seqK fun K8 hK9 => ?_
    refine G.seqK fun K10 hK11 => ?_
    refine G.region ?_
    refine GL.run (j := 3) 3 [0, 1, 12, 13] [(0, .slice A a.length c), (1, .slice B b.length d), (12, .int .i64 (a.length : Int)), (13, .int .i64 0)] (by kernel_rfl) rfl ?_
    refine GL.k rfl hK11 (fun _ _ h => h) ?_
    refine G.block ?_
    refine G.fit [0, 1, 12, 13] (M' := [(0, .slice A a.length c), (1, .slice B b.length d), (12, .int .i64 (a.length : Int)), (13, .int .i64 0)]) (by kernel_rfl) ?_
    refine G.loop (X := Nat) (fun k => [(0, .slice A a.length c), (1, .slice B b.length d), (12, .int .i64 (a.length : Int)), (13, .int .i64 (k : Int))]) (fun k w_ => (k ≤ a.length ∧ a.take k = b.take k) ∧ Hp w [] [] w_) (fun k => a.length - k) 0 [0, 1, 12, 13] (by kernel_rfl) ⟨⟨by omega, rfl⟩, H⟩ ?_
    rintro k w12 ⟨hi13, H14⟩
    refine G.eq (M' := [(0, .slice A a.length c), (1, .slice B b.length d), (12, .int .i64 (a.length : Int)), (13, .int .i64 (k : Int))]) rfl ?_
    have H14 : Hp w [] [] w12 := H14
    obtain ⟨hka, htk⟩ := hi13
    refine G.seqK fun K15 hK16 => ?_
    refine G.region ?_
    refine GL.run (j := 1) 1 [0, 1, 12, 13, 14] [(0, .slice A a.length c), (1, .slice B b.length d), (12, .int .i64 (a.length : Int)), (13, .int .i64 (k : Int)), (14, .bool (decide ((k : Int) < (a.length : Int))))] (by kernel_rfl) rfl ?_
    refine GL.k rfl hK16 (fun _ _ h => h) ?_
    refine G.seqK fun K17 hK18 => ?_
    cases hb19 : (decide ((k : Int) < (a.length : Int)))
    · skip
      have hb19f := of_decide_eq_false hb19
      refine G.no rfl ?_
      refine G.exitK hK9 (fun _ _ h => h) ?_
      refine G.seqK fun K20 hK21 => ?_
      refine G.region ?_
      refine GL.run (j := 1) 1 [4] [(4, .bool true)] (by kernel_rfl) rfl ?_
      refine GL.k rfl hK21 (fun _ _ h => h) ?_
      refine G.ret ?_
      intro F_ hF_ hM_
      refine hRet _ _ (bodyPost_1 rfl (RV.tmp rfl) ?_ F_ hF_ hM_)
      have e0 : a = b := by have h_ := htk; rw [List.take_of_length_le (by omega), List.take_of_length_le (by omega)] at h_; exact h_
      rw [decide_eq_true e0]
      exact ⟨rfl, H14.sub (List.nil_sublist _)⟩
    · skip
      have hb19f := of_decide_eq_true hb19
      refine G.yes rfl ?_
      refine G.skipK hK18 (fun _ _ h => h) ?_
      refine G.seqK fun K22 hK23 => ?_
      refine G.block ?_
      refine G.seqK fun K24 hK25 => ?_
      refine G.region ?_
      refine GL.run (j := 2) 2 [0, 1, 5, 12, 13] [(0, .slice A a.length c), (1, .slice B b.length d), (5, .int .i64 (k : Int)), (12, .int .i64 (a.length : Int)), (13, .int .i64 (k : Int))] (by kernel_rfl) rfl ?_
      refine GL.k rfl hK25 (fun _ _ h => h) ?_
      refine G.seqK fun K26 hK27 => ?_
      refine G.draw H14 (by kernel_rfl) (by kernel_rfl) ?_
      refine GQ.run (j := 2) 2 [0, 1, 5, 12, 13, 16, 17] [(0, .slice A a.length c), (1, .slice B b.length d), (5, .int .i64 (k : Int)), (12, .int .i64 (a.length : Int)), (13, .int .i64 (k : Int)), (16, .slice A a.length c), (17, .int .i64 (k : Int))] (by kernel_rfl) rfl ?_
      refine GQ.sem (j := 3) (fun w_ H_ => run_idxRdN (P := Try.prog) (k := .i64) (t := 22) (sz := 32) (A := A) (len := a.length) (cap := c) (j := k) (by kernel_rfl) rfl (hx.hp H_) (by rw [by8_length]; exact flat8_length hoa) (by decide) (by omega)) [0, 1, 5, 12, 13, 18] [(0, .slice A a.length c), (1, .slice B b.length d), (5, .int .i64 (k : Int)), (12, .int .i64 (a.length : Int)), (13, .int .i64 (k : Int)), (18, .pointer (Option.map (fun x => Addr.add x (k * 32)) A))] (by kernel_rfl) (by kernel_rfl) rfl ?_
      refine GQ.sem (j := 4) (fun w_ H_ => run_ldRdA (P := Try.prog) (ty := 25) (m := 32) (o := (k * 32)) (A := A) (sub := by8 (a.getD k [])) (by kernel_rfl) (hx.hp H_) (flat8_sub hoa (by omega)) (by rw [by8_length, ok32_at hoa (by omega)]) (by decide)) [0, 1, 5, 12, 13, 19] [(0, .slice A a.length c), (1, .slice B b.length d), (5, .int .i64 (k : Int)), (12, .int .i64 (a.length : Int)), (13, .int .i64 (k : Int)), (19, .agg (by8 (a.getD k [])).toArray)] (by kernel_rfl) (by kernel_rfl) rfl ?_
      refine GQ.run (j := 6) 2 [0, 1, 12, 13, 19, 20, 21] [(0, .slice A a.length c), (1, .slice B b.length d), (12, .int .i64 (a.length : Int)), (13, .int .i64 (k : Int)), (19, .agg (by8 (a.getD k [])).toArray), (20, .slice B b.length d), (21, .int .i64 (k : Int))] (by kernel_rfl) rfl ?_
      refine GQ.sem (j := 7) (fun w_ H_ => run_idxRdN (P := Try.prog) (k := .i64) (t := 33) (sz := 32) (A := B) (len := b.length) (cap := d) (j := k) (by kernel_rfl) rfl (hy.hp H_) (by rw [by8_length]; exact flat8_length hob) (by decide) (by omega)) [0, 1, 12, 13, 19, 22] [(0, .slice A a.length c), (1, .slice B b.length d), (12, .int .i64 (a.length : Int)), (13, .int .i64 (k : Int)), (19, .agg (by8 (a.getD k [])).toArray), (22, .pointer (Option.map (fun x => Addr.add x (k * 32)) B))] (by kernel_rfl) (by kernel_rfl) rfl ?_
      refine GQ.sem (j := 8) (fun w_ H_ => run_ldRdA (P := Try.prog) (ty := 24) (m := 32) (o := (k * 32)) (A := B) (sub := by8 (b.getD k [])) (by kernel_rfl) (hy.hp H_) (flat8_sub hob (by omega)) (by rw [by8_length, ok32_at hob (by omega)]) (by decide)) [0, 1, 12, 13, 19, 23] [(0, .slice A a.length c), (1, .slice B b.length d), (12, .int .i64 (a.length : Int)), (13, .int .i64 (k : Int)), (19, .agg (by8 (a.getD k [])).toArray), (23, .agg (by8 (b.getD k [])).toArray)] (by kernel_rfl) (by kernel_rfl) rfl ?_
      refine GQ.sem (j := 9) (fun w_ H_ => run_by8_neq (P := Try.prog) (t := 25) (n := 32) (x := (.tmp 19)) (y := (.tmp 23)) (by kernel_rfl) (a.getD k []) (b.getD k []) (by rw [ok32_at hoa (by omega)]) (by rw [ok32_at hob (by omega)]) _) [0, 1, 12, 13, 24] [(0, .slice A a.length c), (1, .slice B b.length d), (12, .int .i64 (a.length : Int)), (13, .int .i64 (k : Int)), (24, .bool (!(decide ((a.getD k []) = (b.getD k [])))))] (by kernel_rfl) (by kernel_rfl) rfl ?_
      refine GQ.k rfl hK27 (fun _ _ h => h) (fun w28 H29 => ?_)
      cases hb30 : (decide ((a.getD k []) = (b.getD k [])))
      · skip
        have hb30f := of_decide_eq_false hb30
        have heqk : a.getD k [] ≠ b.getD k [] := of_decide_eq_false hb30
        refine G.yes rfl ?_
        refine G.seqK fun K31 hK32 => ?_
        refine G.region ?_
        refine GL.run (j := 1) 1 [4] [(4, .bool false)] (by kernel_rfl) rfl ?_
        refine GL.k rfl hK32 (fun _ _ h => h) ?_
        refine G.ret ?_
        intro F_ hF_ hM_
        refine hRet _ _ (bodyPost_1 rfl (RV.tmp rfl) ?_ F_ hF_ hM_)
        rw [decide_eq_false (fun h => heqk (by rw [h]))]
        exact ⟨rfl, H29.sub (List.nil_sublist _)⟩
      · skip
        have hb30f := of_decide_eq_true hb30
        have heqk : a.getD k [] = b.getD k [] := of_decide_eq_true hb30
        refine G.no rfl ?_
        refine G.skipK hK23 (fun _ _ h => h) ?_
        refine G.region ?_
        refine GL.run (j := 2) 2 [0, 1, 12, 13] [(0, .slice A a.length c), (1, .slice B b.length d), (12, .int .i64 (a.length : Int)), (13, .int .i64 (IntKind.i64.wrap ((k : Int) + 1)))] (by kernel_rfl) rfl ?_
        have e33 : (IntKind.i64.wrap ((k : Int) + 1)) = ((k + 1 : Nat) : Int) := by rw [in_i64 (by omega)]; omega
        refine GL.eq (M' := [(0, .slice A a.length c), (1, .slice B b.length d), (12, .int .i64 (a.length : Int)), (13, .int .i64 ((k + 1 : Nat) : Int))]) (by rw [e33]) ?_
        clear e33
        refine GL.fit (ts := [0, 1, 12, 13]) (M' := [(0, .slice A a.length c), (1, .slice B b.length d), (12, .int .i64 (a.length : Int)), (13, .int .i64 ((k + 1 : Nat) : Int))]) (by kernel_rfl) ?_
        refine GL.eq (M' := [(0, .slice A a.length c), (1, .slice B b.length d), (12, .int .i64 (a.length : Int)), (13, .int .i64 (((k + 1) : Nat) : Int))]) (by rfl) ?_
        exact GL.again (k + 1) [0, 1, 12, 13] rfl (by kernel_rfl) (by show a.length - (k + 1) < a.length - k; omega) ⟨⟨by omega, by rw [List.take_add_one, List.take_add_one, htk, getDH (l := a) (j := k) (by omega), getDH (l := b) (j := k) (by omega), heqk]⟩, H29⟩
  · skip
    have hb7f : (a.length : Int) ≠ (b.length : Int) := bne_iff_ne.1 hb7
    refine G.yes rfl ?_
    refine G.seqK fun K34 hK35 => ?_
    refine G.region ?_
    refine GL.run (j := 1) 1 [4] [(4, .bool false)] (by kernel_rfl) rfl ?_
    refine GL.k rfl hK35 (fun _ _ h => h) ?_
    refine G.ret ?_
    intro F_ hF_ hM_
    refine hRet _ _ (bodyPost_1 rfl (RV.tmp rfl) ?_ F_ hF_ hM_)
    rw [decide_eq_false (fun h => by have := congrArg List.length h; omega)]
    exact ⟨rfl, H.sub (List.nil_sublist _)⟩
end Go.Proofs.Ytgmggjnoegelgaa
