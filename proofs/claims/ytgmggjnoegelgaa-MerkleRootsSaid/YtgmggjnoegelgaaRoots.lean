/- The root of any hashes, and the way of each: the walk. -/
import Derived.Test.YtgmggjnoegelgaaMkC
namespace Go.Proofs.Ytgmggjnoegelgaa
open Go.RowKit
theorem MerkleRoots_calls (A : Option Addr) (c : Nat) (l : List (List UInt8)) (z : Int) (w : World) (hx : RdS w A (by8 (flat8 l))) (hok : ok32 l) (hc : l.length ≤ c) (hz : -9223372036854775808 ≤ z ∧ z ≤ 9223372036854775807) : Calls Try.prog 3 #[.slice A l.length c, .int .i64 z] w fun e w' => e = .returned (.bool true) ∧ Hp w [] [] w' := by
  refine calls_G (args := [.slice A l.length c, .int .i64 z]) Try.func3 rfl Try.ntmps3 rfl ?_
  intro Q0 hRet hNor hPan
  have H := Hp.start w
  have H : Hp w [] [] w := H
  refine G.seqK fun K1 hK2 => ?_
  refine G.region ?_
  refine GL.run (j := 1) 1 [0, 1] [(0, .slice A l.length c), (1, .int .i64 z)] (by kernel_rfl) rfl ?_
  refine GL.k rfl hK2 (fun _ _ h => h) ?_
  refine G.seqK fun K3 hK4 => ?_
  refine G.seqK fun K5 hK6 => ?_
  refine G.region ?_
  refine GL.call (j := 1) (lives_calls w) (by kernel_rfl) rfl (fun e_ w7 hR => ?_)
  obtain ⟨rfl, H9⟩ := hR
  have H8 : Hp w [] [] w7 := H.callNil H9
  refine ⟨_, rfl, [0, 1, 9], [(0, .slice A l.length c), (1, .int .i64 z), (9, .bool true)], by kernel_rfl, ?_⟩
  refine GL.run (j := 7) 6 [0, 1, 15] [(0, .slice A l.length c), (1, .int .i64 z), (15, .bool (decide (20 < (l.length : Int))))] (by kernel_rfl) rfl ?_
  refine GL.k rfl hK6 (fun _ _ h => h) ?_
  cases hb10 : (decide (20 < (l.length : Int)))
  · skip
    have hb10f := of_decide_eq_false hb10
    refine G.no rfl ?_
    refine G.skipK hK4 (fun _ _ h => h) ?_
    refine G.seqK fun K11 hK12 => ?_
    refine G.region ?_
    refine GL.run (j := 1) 1 [0, 1, 18] [(0, .slice A l.length c), (1, .int .i64 z), (18, .slice A l.length c)] (by kernel_rfl) rfl ?_
    refine GL.call (j := 2) (Root_calls A c l w7 (hx.hp H8) hok (by omega)) (by kernel_rfl) rfl (fun e_ w13 hR => ?_)
    obtain ⟨rfl, H15⟩ := hR
    have H14 : Hp w [] [] w13 := H8.callNil H15
    refine ⟨_, rfl, [0, 1, 19], [(0, .slice A l.length c), (1, .int .i64 z), (19, .tuple #[.agg (by8 (rootV l)).toArray, .int .i64 (((rootE l) : Nat) : Int)])], by kernel_rfl, ?_⟩
    refine GL.run (j := 5) 3 [0, 1, 20, 21] [(0, .slice A l.length c), (1, .int .i64 z), (20, .agg (by8 (rootV l)).toArray), (21, .int .i64 (((rootE l) : Nat) : Int))] (by kernel_rfl) rfl ?_
    obtain ⟨p16, w17, r18, H19⟩ := H14.alloc (P := Try.prog) 25 (by8 (List.replicate 32 0)) (by kernel_rfl)
    have H19 : Hp w [] [.blk p16 (by8 (List.replicate 32 0)) 25] w17 := H19
    refine GL.sem (j := 6) (r18) [0, 1, 5, 20, 21] [(0, .slice A l.length c), (1, .int .i64 z), (5, pt p16 0), (20, .agg (by8 (rootV l)).toArray), (21, .int .i64 (((rootE l) : Nat) : Int))] (by kernel_rfl) (by kernel_rfl) rfl ?_
    obtain ⟨w20, r21, H22⟩ := H19.stA (P := Try.prog) (o := 0) (vs := by8 (rootV l)) (ty := 25) (m := 32) 0 rfl (by kernel_rfl) (by rw [by8_length, rootV_length hok]) (Nat.le_of_eq (by rw [Nat.zero_add]; exact ((show (by8 (List.replicate 32 0)).length = 32 from by rw [by8_length]; rfl)).symm)) (by8_one _)
    rw [st_whole (by rw [by8_length]; rfl)] at H22
    have H22 : Hp w [] [.blk p16 (by8 (rootV l)) 25] w20 := H22
    refine GL.semU (j := 7) r21 [0, 1, 5, 21] [(0, .slice A l.length c), (1, .int .i64 z), (5, pt p16 0), (21, .int .i64 (((rootE l) : Nat) : Int))] (by kernel_rfl) rfl rfl rfl ?_
    refine GL.run (j := 8) 1 [0, 1, 5, 6] [(0, .slice A l.length c), (1, .int .i64 z), (5, pt p16 0), (6, .int .i64 (((rootE l) : Nat) : Int))] (by kernel_rfl) rfl ?_
    refine GL.k rfl hK12 (fun _ _ h => h) ?_
    refine G.seqK fun K23 hK24 => ?_
    refine G.region ?_
    refine GL.run (j := 2) 2 [0, 1, 5, 6, 23, 24] [(0, .slice A l.length c), (1, .int .i64 z), (5, pt p16 0), (6, .int .i64 (((rootE l) : Nat) : Int)), (23, .slice A l.length c), (24, .int .i64 z)] (by kernel_rfl) rfl ?_
    refine GL.call (j := 3) (Way_calls A c l z w20 (hx.hp H22) hok (by omega) hz) (by kernel_rfl) rfl (fun e_ w27 hR => ?_)
    obtain ⟨A25, c26, rfl, H29⟩ := hR
    have H28 : Hp w [] [.blk p16 (by8 (rootV l)) 25, .row A25 ((wayV l z).length) c26 25 32 (by8 (flat8 (wayV l z)))] w27 := H22.callNew H29
    refine ⟨_, rfl, [0, 1, 5, 6, 25], [(0, .slice A l.length c), (1, .int .i64 z), (5, pt p16 0), (6, .int .i64 (((rootE l) : Nat) : Int)), (25, .tuple #[.slice A25 ((wayV l z).length) c26, .int .i64 (((wayE l z) : Nat) : Int)])], by kernel_rfl, ?_⟩
    refine GL.run (j := 8) 5 [0, 1, 5, 6, 7, 8] [(0, .slice A l.length c), (1, .int .i64 z), (5, pt p16 0), (6, .int .i64 (((rootE l) : Nat) : Int)), (7, .slice A25 ((wayV l z).length) c26), (8, .int .i64 (((wayE l z) : Nat) : Int))] (by kernel_rfl) rfl ?_
    refine GL.k rfl hK24 (fun _ _ h => h) ?_
    refine G.seqK fun K30 hK31 => ?_
    refine G.seqK fun K32 hK33 => ?_
    refine G.region ?_
    refine GL.run (j := 3) 3 [0, 1, 5, 6, 7, 8, 30] [(0, .slice A l.length c), (1, .int .i64 z), (5, pt p16 0), (6, .int .i64 (((rootE l) : Nat) : Int)), (7, .slice A25 ((wayV l z).length) c26), (8, .int .i64 (((wayE l z) : Nat) : Int)), (30, .bool ((l.length : Int) == 0))] (by kernel_rfl) rfl ?_
    refine GL.k rfl hK33 (fun _ _ h => h) ?_
    cases hb34 : ((l.length : Int) == 0)
    · skip
      have hb34f := ne_of_beq_false hb34
      have hlf : leafB (l.length : Int) = true := by unfold leafB; exact decide_eq_true (by omega)
      have hce : chkE (l.length : Int) = 0 := by unfold chkE; rw [if_neg (by omega), if_pos hlf]
      refine G.no rfl ?_
      refine G.skipK hK31 (fun _ _ h => h) ?_
      refine G.seqK fun K35 hK36 => ?_
      refine G.seqK fun K37 hK38 => ?_
      refine G.heldP (Hp w [] [.blk p16 (by8 (rootV l)) 25, .row A25 ((wayV l z).length) c26 25 32 (by8 (flat8 (wayV l z)))]) (by kernel_rfl) (by kernel_rfl) (fun c_ a_ d_ v_ w_ h_ => hPan c_ a_ d_ v_ w_ h_) ?_
      have H39 := H28.drew
      generalize ({ w27 with drawn := w27.drawn + 1 } : World) = w40 at H39 ⊢
      have hS41 : Hp w [] [.blk p16 (by8 (rootV l)) 25, .row A25 ((wayV l z).length) c26 25 32 (by8 (flat8 (wayV l z)))] w40 := H39.sub (List.Sublist.cons_cons _ (List.Sublist.cons_cons _ (List.Sublist.slnil)))
      refine GP.run [0, 1, 2] [0, 1, 5, 7, 8, 52] [(0, .slice A l.length c), (1, .int .i64 z), (5, pt p16 0), (7, .slice A25 ((wayV l z).length) c26), (8, .int .i64 (((wayE l z) : Nat) : Int)), (52, .bool ((((rootE l) : Nat) : Int) != 0))] [0, 1, 2] (by kernel_rfl) rfl hS41 ?_
      have hb42 : ((((rootE l) : Nat) : Int) != 0) = false := by rw [show rootE l = 0 from hce]; rfl
      rw [hb42]
      refine GP.sem 3 (fun w_ H_ => H_.ldA (o := 0) (ty := 25) (m := 32) (sub := by8 (rootV l)) 0 rfl (by kernel_rfl) (sub_whole (by rw [by8_length, rootV_length hok])) (by rw [by8_length, rootV_length hok])) [0, 1, 7, 8, 52, 53] [(0, .slice A l.length c), (1, .int .i64 z), (7, .slice A25 ((wayV l z).length) c26), (8, .int .i64 (((wayE l z) : Nat) : Int)), (52, .bool false), (53, .agg (by8 (rootV l)).toArray)] (by kernel_rfl) (by kernel_rfl) (by kernel_rfl) hS41 ?_
      refine GP.run [4] [0, 1, 7, 8, 52, 53, 54] [(0, .slice A l.length c), (1, .int .i64 z), (7, .slice A25 ((wayV l z).length) c26), (8, .int .i64 (((wayE l z) : Nat) : Int)), (52, .bool false), (53, .agg (by8 (rootV l)).toArray), (54, .slice A l.length c)] [0, 1, 2, 3, 4] (by kernel_rfl) rfl hS41 ?_
      refine GP.call 5 (Plain_calls A c l w40 (hx.hp H39) hok (by omega) (by omega)) (by kernel_rfl) (by kernel_rfl) (fun e_ w45 hR => ?_)
      obtain ⟨A43, c44, rfl, H47⟩ := hR
      have H46 : Hp w [] [.blk p16 (by8 (rootV l)) 25, .row A25 ((wayV l z).length) c26 25 32 (by8 (flat8 (wayV l z))), .row A43 l.length c44 24 32 (by8 (flat8 l))] w45 := H39.callNew H47
      have hq48 := (H46.rowLe 2 rfl).1
      have hS49 : Hp w [] [.blk p16 (by8 (rootV l)) 25, .row A25 ((wayV l z).length) c26 25 32 (by8 (flat8 (wayV l z)))] w45 := H46.sub (List.Sublist.cons_cons _ (List.Sublist.cons_cons _ (List.Sublist.cons _ (List.Sublist.slnil))))
      refine ⟨_, rfl, hS49, [0, 1, 7, 8, 52, 53, 55], [(0, .slice A l.length c), (1, .int .i64 z), (7, .slice A25 ((wayV l z).length) c26), (8, .int .i64 (((wayE l z) : Nat) : Int)), (52, .bool false), (53, .agg (by8 (rootV l)).toArray), (55, .slice A43 l.length c44)], by kernel_rfl, ?_⟩
      refine GP.call 6 (RefRoot_calls A43 c44 l w45 (H46.rdRowN 2 rfl) hok (by omega) (by omega) (by omega)) (by kernel_rfl) (by kernel_rfl) (fun e_ w50 hR => ?_)
      obtain ⟨rfl, H52⟩ := hR
      have H51 : Hp w [] [.blk p16 (by8 (rootV l)) 25, .row A25 ((wayV l z).length) c26 25 32 (by8 (flat8 (wayV l z))), .row A43 l.length c44 24 32 (by8 (flat8 l))] w50 := H46.callNil H52
      have hS53 : Hp w [] [.blk p16 (by8 (rootV l)) 25, .row A25 ((wayV l z).length) c26 25 32 (by8 (flat8 (wayV l z)))] w50 := H51.sub (List.Sublist.cons_cons _ (List.Sublist.cons_cons _ (List.Sublist.cons _ (List.Sublist.slnil))))
      refine ⟨_, rfl, hS53, [0, 1, 7, 8, 52, 53, 56], [(0, .slice A l.length c), (1, .int .i64 z), (7, .slice A25 ((wayV l z).length) c26), (8, .int .i64 (((wayE l z) : Nat) : Int)), (52, .bool false), (53, .agg (by8 (rootV l)).toArray), (56, .agg (by8 (rootH l)).toArray)], by kernel_rfl, ?_⟩
      refine GP.sem 7 (fun w_ H_ => run_by8_neq (P := Try.prog) (t := 25) (n := 32) (x := (.tmp 53)) (y := (.tmp 56)) (by kernel_rfl) (rootV l) (rootH l) (by rw [rootV_length hok]) (by rw [rootH_length l.length l (Nat.le_refl _) (by omega) hok]) _) [0, 1, 7, 8, 52, 57] [(0, .slice A l.length c), (1, .int .i64 z), (7, .slice A25 ((wayV l z).length) c26), (8, .int .i64 (((wayE l z) : Nat) : Int)), (52, .bool false), (57, .bool (!(decide ((rootV l) = (rootH l)))))] (by kernel_rfl) (by kernel_rfl) (by kernel_rfl) hS53 ?_
      refine GP.run [8] [0, 1, 7, 8, 58] [(0, .slice A l.length c), (1, .int .i64 z), (7, .slice A25 ((wayV l z).length) c26), (8, .int .i64 (((wayE l z) : Nat) : Int)), (58, .bool (!(decide ((rootV l) = (rootH l)))))] [0, 1, 2, 3, 4, 5, 6, 7, 8] (by kernel_rfl) rfl hS53 ?_
      refine GP.k (by kernel_rfl) hK38 (fun _ _ h => h) ?_
      have hb54 : (!(decide ((rootV l) = (rootH l)))) = false := by rw [show (decide ((rootV l) = (rootH l))) = true from decide_eq_true (by unfold rootV; rw [if_pos (show rootE l = 0 from hce)])]; rfl
      rw [hb54]
      refine G.no rfl ?_
      refine G.skipK hK36 (fun _ _ h => h) ?_
      refine G.seqK fun K55 hK56 => ?_
      refine G.seqK fun K57 hK58 => ?_
      refine G.region ?_
      refine GL.run (j := 3) 3 [0, 1, 7, 8, 61] [(0, .slice A l.length c), (1, .int .i64 z), (7, .slice A25 ((wayV l z).length) c26), (8, .int .i64 (((wayE l z) : Nat) : Int)), (61, .bool (decide (z < 0)))] (by kernel_rfl) rfl ?_
      cases hb59 : (decide (z < 0))
      · skip
        have hb59f := of_decide_eq_false hb59
        refine GL.run (j := 8) 5 [0, 1, 7, 8, 66] [(0, .slice A l.length c), (1, .int .i64 z), (7, .slice A25 ((wayV l z).length) c26), (8, .int .i64 (((wayE l z) : Nat) : Int)), (66, .bool (decide ((l.length : Int) ≤ z)))] (by kernel_rfl) rfl ?_
        refine GL.k rfl hK58 (fun _ _ h => h) ?_
        cases hb60 : (decide ((l.length : Int) ≤ z))
        · skip
          have hb60f := of_decide_eq_false hb60
          obtain ⟨i, hzi⟩ : ∃ i : Nat, z = (i : Int) := ⟨z.toNat, by omega⟩
          have hil : i < l.length := by omega
          have hwe : wayE l z = 0 := by unfold wayE; rw [if_pos hce, if_pos (by omega)]
          have hwv : wayV l z = wayH l i := by unfold wayV; rw [if_pos hwe, hzi]; simp
          have hrn : rowsN l.length = cntH l.length := by unfold rowsN; rw [if_pos hlf]
          have hw16 : (wayH l i).length ≤ 65536 := by rw [wayH_length l.length l i (Nat.le_refl _)]; exact Nat.le_trans (cntH_le _) (by omega)
          have hw17 : (wayV l z).length ≤ 65536 := by rw [hwv]; exact hw16
          refine G.eq (M' := [(0, .slice A l.length c), (1, .int .i64 (i : Int)), (7, .slice A25 ((wayV l z).length) c26), (8, .int .i64 (((wayE l z) : Nat) : Int)), (66, .bool false)]) (by rw [← hzi]) ?_
          refine G.no rfl ?_
          refine G.skipK hK56 (fun _ _ h => h) ?_
          refine G.seqK fun K61 hK62 => ?_
          refine G.region ?_
          refine GL.run (j := 3) 3 [0, 1, 7, 76] [(0, .slice A l.length c), (1, .int .i64 (i : Int)), (7, .slice A25 ((wayV l z).length) c26), (76, .bool ((((wayE l z) : Nat) : Int) == 0))] (by kernel_rfl) rfl ?_
          have hb63 : ((((wayE l z) : Nat) : Int) == 0) = true := by rw [hwe]; rfl
          rw [hb63]
          refine GL.run (j := 5) 2 [0, 1, 7, 76, 77, 78] [(0, .slice A l.length c), (1, .int .i64 (i : Int)), (7, .slice A25 ((wayV l z).length) c26), (76, .bool true), (77, .slice A25 ((wayV l z).length) c26), (78, .slice A l.length c)] (by kernel_rfl) rfl ?_
          refine GL.call (j := 6) (Plain_calls A c l w50 (hx.hp H51) hok (by omega) (by omega)) (by kernel_rfl) rfl (fun e_ w66 hR => ?_)
          obtain ⟨A64, c65, rfl, H68⟩ := hR
          have H67 : Hp w [] [.blk p16 (by8 (rootV l)) 25, .row A25 ((wayV l z).length) c26 25 32 (by8 (flat8 (wayV l z))), .row A43 l.length c44 24 32 (by8 (flat8 l)), .row A64 l.length c65 24 32 (by8 (flat8 l))] w66 := H51.callNew H68
          have hq69 := (H67.rowLe 3 rfl).1
          refine ⟨_, rfl, [0, 1, 7, 76, 77, 79], [(0, .slice A l.length c), (1, .int .i64 (i : Int)), (7, .slice A25 ((wayV l z).length) c26), (76, .bool true), (77, .slice A25 ((wayV l z).length) c26), (79, .slice A64 l.length c65)], by kernel_rfl, ?_⟩
          refine GL.run (j := 7) 1 [0, 7, 76, 77, 79, 80] [(0, .slice A l.length c), (7, .slice A25 ((wayV l z).length) c26), (76, .bool true), (77, .slice A25 ((wayV l z).length) c26), (79, .slice A64 l.length c65), (80, .int .i64 (i : Int))] (by kernel_rfl) rfl ?_
          refine GL.call (j := 8) (RefWay_calls A64 c65 l i w66 (H67.rdRowN 3 rfl) hok (by omega) (by omega) (by omega)) (by kernel_rfl) rfl (fun e_ w72 hR => ?_)
          obtain ⟨A70, c71, rfl, H74⟩ := hR
          have H73 : Hp w [] [.blk p16 (by8 (rootV l)) 25, .row A25 ((wayV l z).length) c26 25 32 (by8 (flat8 (wayV l z))), .row A43 l.length c44 24 32 (by8 (flat8 l)), .row A64 l.length c65 24 32 (by8 (flat8 l)), .row A70 ((wayH l i).length) c71 24 32 (by8 (flat8 (wayH l i)))] w72 := H67.callNew H74
          refine ⟨_, rfl, [0, 7, 76, 77, 81], [(0, .slice A l.length c), (7, .slice A25 ((wayV l z).length) c26), (76, .bool true), (77, .slice A25 ((wayV l z).length) c26), (81, .slice A70 ((wayH l i).length) c71)], by kernel_rfl, ?_⟩
          refine GL.call (j := 9) (Same_calls A25 A70 c26 c71 (wayV l z) (wayH l i) w72 (H73.rdRowN 1 rfl) (H73.rdRowN 4 rfl) (by rw [hwv]; exact ok32_wayH l.length l i (Nat.le_refl _) hok) (ok32_wayH l.length l i (Nat.le_refl _) hok) (by assumption) (by assumption)) (by kernel_rfl) rfl (fun e_ w75 hR => ?_)
          obtain ⟨rfl, H77⟩ := hR
          have H76 : Hp w [] [.blk p16 (by8 (rootV l)) 25, .row A25 ((wayV l z).length) c26 25 32 (by8 (flat8 (wayV l z))), .row A43 l.length c44 24 32 (by8 (flat8 l)), .row A64 l.length c65 24 32 (by8 (flat8 l)), .row A70 ((wayH l i).length) c71 24 32 (by8 (flat8 (wayH l i)))] w75 := H73.callNil H77
          refine ⟨_, rfl, [0, 7, 76, 82], [(0, .slice A l.length c), (7, .slice A25 ((wayV l z).length) c26), (76, .bool true), (82, .bool (decide ((wayV l z) = (wayH l i))))], by kernel_rfl, ?_⟩
          refine GL.run (j := 11) 2 [0, 7, 84] [(0, .slice A l.length c), (7, .slice A25 ((wayV l z).length) c26), (84, .bool (decide ((wayV l z) = (wayH l i))))] (by kernel_rfl) rfl ?_
          have hb78 : (decide ((wayV l z) = (wayH l i))) = true := decide_eq_true hwv
          rw [hb78]
          refine GL.run (j := 13) 2 [7, 84, 86] [(7, .slice A25 ((wayV l z).length) c26), (84, .bool true), (86, .int .i64 (l.length : Int))] (by kernel_rfl) rfl ?_
          refine GL.call (j := 14) (Rows_calls l.length w75) (by kernel_rfl) rfl (fun e_ w79 hR => ?_)
          obtain ⟨rfl, H81⟩ := hR
          have H80 : Hp w [] [.blk p16 (by8 (rootV l)) 25, .row A25 ((wayV l z).length) c26 25 32 (by8 (flat8 (wayV l z))), .row A43 l.length c44 24 32 (by8 (flat8 l)), .row A64 l.length c65 24 32 (by8 (flat8 l)), .row A70 ((wayH l i).length) c71 24 32 (by8 (flat8 (wayH l i)))] w79 := H76.callNil H81
          refine ⟨_, rfl, [7, 84, 87], [(7, .slice A25 ((wayV l z).length) c26), (84, .bool true), (87, .int .i64 (((rowsN l.length) : Nat) : Int))], by kernel_rfl, ?_⟩
          refine GL.run (j := 19) 5 [4] [(4, .bool ((((rowsN l.length) : Nat) : Int) == (((wayV l z).length : Nat) : Int)))] (by kernel_rfl) rfl ?_
          refine GL.k rfl hK62 (fun _ _ h => h) ?_
          refine G.ret ?_
          intro F_ hF_ hM_
          refine hRet _ _ (bodyPost_1 rfl (RV.tmp rfl) ?_ F_ hF_ hM_)
          have hb82 : ((((rowsN l.length) : Nat) : Int) == (((wayV l z).length : Nat) : Int)) = true := by rw [hwv, wayH_length l.length l i (Nat.le_refl _), hrn]; exact beq_self_eq_true _
          rw [hb82]
          exact ⟨rfl, H80.sub (List.nil_sublist _)⟩
        · skip
          have hb60f := of_decide_eq_true hb60
          have hwv : wayV l z = [] := by unfold wayV; rw [if_neg (by unfold wayE; rw [if_pos hce, if_neg (by omega)]; decide)]
          refine G.yes rfl ?_
          refine G.seqK fun K83 hK84 => ?_
          refine G.region ?_
          refine GL.run (j := 3) 3 [7, 69] [(7, .slice A25 ((wayV l z).length) c26), (69, .bool ((((wayE l z) : Nat) : Int) == 1))] (by kernel_rfl) rfl ?_
          have hb85 : ((((wayE l z) : Nat) : Int) == 1) = true := by rw [show wayE l z = 1 by unfold wayE; rw [if_pos hce, if_neg (by omega)]]; rfl
          rw [hb85]
          refine GL.run (j := 8) 5 [4] [(4, .bool ((((wayV l z).length : Nat) : Int) == 0))] (by kernel_rfl) rfl ?_
          refine GL.k rfl hK84 (fun _ _ h => h) ?_
          refine G.ret ?_
          intro F_ hF_ hM_
          refine hRet _ _ (bodyPost_1 rfl (RV.tmp rfl) ?_ F_ hF_ hM_)
          have hb86 : ((((wayV l z).length : Nat) : Int) == 0) = true := by rw [show wayV l z = [] from hwv]; rfl
          rw [hb86]
          exact ⟨rfl, H51.sub (List.nil_sublist _)⟩
      · skip
        have hb59f := of_decide_eq_true hb59
        have hwv : wayV l z = [] := by unfold wayV; rw [if_neg (by unfold wayE; rw [if_pos hce, if_neg (by omega)]; decide)]
        refine GL.run (j := 8) 5 [0, 1, 7, 8, 66] [(0, .slice A l.length c), (1, .int .i64 z), (7, .slice A25 ((wayV l z).length) c26), (8, .int .i64 (((wayE l z) : Nat) : Int)), (66, .bool true)] (by kernel_rfl) rfl ?_
        refine GL.k rfl hK58 (fun _ _ h => h) ?_
        refine G.yes rfl ?_
        refine G.seqK fun K87 hK88 => ?_
        refine G.region ?_
        refine GL.run (j := 3) 3 [7, 69] [(7, .slice A25 ((wayV l z).length) c26), (69, .bool ((((wayE l z) : Nat) : Int) == 1))] (by kernel_rfl) rfl ?_
        have hb89 : ((((wayE l z) : Nat) : Int) == 1) = true := by rw [show wayE l z = 1 by unfold wayE; rw [if_pos hce, if_neg (by omega)]]; rfl
        rw [hb89]
        refine GL.run (j := 8) 5 [4] [(4, .bool ((((wayV l z).length : Nat) : Int) == 0))] (by kernel_rfl) rfl ?_
        refine GL.k rfl hK88 (fun _ _ h => h) ?_
        refine G.ret ?_
        intro F_ hF_ hM_
        refine hRet _ _ (bodyPost_1 rfl (RV.tmp rfl) ?_ F_ hF_ hM_)
        have hb90 : ((((wayV l z).length : Nat) : Int) == 0) = true := by rw [show wayV l z = [] from hwv]; rfl
        rw [hb90]
        exact ⟨rfl, H51.sub (List.nil_sublist _)⟩
    · skip
      have hb34f := eq_of_beq hb34
      have hc16 : chkE (l.length : Int) = 16 := by unfold chkE; rw [if_pos (by omega)]
      have hwv : wayV l z = [] := by unfold wayV wayE; rw [hc16]; rfl
      refine G.yes rfl ?_
      refine G.seqK fun K91 hK92 => ?_
      refine G.region ?_
      refine GL.run (j := 3) 3 [5, 7, 8, 33] [(5, pt p16 0), (7, .slice A25 ((wayV l z).length) c26), (8, .int .i64 (((wayE l z) : Nat) : Int)), (33, .bool ((((rootE l) : Nat) : Int) == 16))] (by kernel_rfl) rfl ?_
      have hb93 : ((((rootE l) : Nat) : Int) == 16) = true := by rw [show rootE l = 16 from hc16]; rfl
      rw [hb93]
      refine GL.run (j := 7) 4 [5, 7, 37] [(5, pt p16 0), (7, .slice A25 ((wayV l z).length) c26), (37, .bool ((((wayE l z) : Nat) : Int) == 16))] (by kernel_rfl) rfl ?_
      have hb94 : ((((wayE l z) : Nat) : Int) == 16) = true := by rw [show wayE l z = 16 by unfold wayE; rw [hc16]; rfl]; rfl
      rw [hb94]
      refine GL.sem (j := 8) (H28.ldA (o := 0) (ty := 25) (m := 32) (sub := by8 (rootV l)) 0 rfl (by kernel_rfl) (sub_whole (by rw [by8_length, rootV_length hok])) (by rw [by8_length, rootV_length hok])) [7, 37, 38] [(7, .slice A25 ((wayV l z).length) c26), (37, .bool true), (38, .agg (by8 (rootV l)).toArray)] (by kernel_rfl) (by kernel_rfl) rfl ?_
      refine GL.call (j := 9) (Zero_calls (rootV l) (by rw [rootV_length hok]) w27) (by kernel_rfl) rfl (fun e_ w95 hR => ?_)
      obtain ⟨rfl, H97⟩ := hR
      have H96 : Hp w [] [.blk p16 (by8 (rootV l)) 25, .row A25 ((wayV l z).length) c26 25 32 (by8 (flat8 (wayV l z)))] w95 := H28.callNil H97
      refine ⟨_, rfl, [7, 37, 39], [(7, .slice A25 ((wayV l z).length) c26), (37, .bool true), (39, .bool (decide ((rootV l) = (List.replicate 32 0))))], by kernel_rfl, ?_⟩
      refine GL.run (j := 11) 2 [7, 41] [(7, .slice A25 ((wayV l z).length) c26), (41, .bool (decide ((rootV l) = (List.replicate 32 0))))] (by kernel_rfl) rfl ?_
      have hb98 : (decide ((rootV l) = (List.replicate 32 0))) = true := decide_eq_true (by unfold rootV; rw [if_neg (by rw [show rootE l = 16 from hc16]; decide)])
      rw [hb98]
      refine GL.run (j := 16) 5 [46] [(46, .bool ((((wayV l z).length : Nat) : Int) == 0))] (by kernel_rfl) rfl ?_
      have hb99 : ((((wayV l z).length : Nat) : Int) == 0) = true := by rw [show wayV l z = [] from hwv]; rfl
      rw [hb99]
      refine GL.call (j := 17) (Rows_calls 0 w95) (by kernel_rfl) rfl (fun e_ w100 hR => ?_)
      obtain ⟨rfl, H102⟩ := hR
      have H101 : Hp w [] [.blk p16 (by8 (rootV l)) 25, .row A25 ((wayV l z).length) c26 25 32 (by8 (flat8 (wayV l z)))] w100 := H96.callNil H102
      refine ⟨_, rfl, [46, 47], [(46, .bool true), (47, .int .i64 (((rowsN 0) : Nat) : Int))], by kernel_rfl, ?_⟩
      refine GL.run (j := 20) 3 [4] [(4, .bool ((((rowsN 0) : Nat) : Int) == 0))] (by kernel_rfl) rfl ?_
      refine GL.k rfl hK92 (fun _ _ h => h) ?_
      refine G.ret ?_
      intro F_ hF_ hM_
      refine hRet _ _ (bodyPost_1 rfl (RV.tmp rfl) ?_ F_ hF_ hM_)
      have hb103 : ((((rowsN 0) : Nat) : Int) == 0) = true := by kernel_rfl
      rw [hb103]
      exact ⟨rfl, H101.sub (List.nil_sublist _)⟩
  · skip
    have hb10f := of_decide_eq_true hb10
    refine G.yes rfl ?_
    refine G.seqK fun K104 hK105 => ?_
    refine G.region ?_
    refine GL.call (j := 1) (lives_calls w7) (by kernel_rfl) rfl (fun e_ w106 hR => ?_)
    obtain ⟨rfl, H108⟩ := hR
    have H107 : Hp w [] [] w106 := H8.callNil H108
    refine ⟨_, rfl, [16], [(16, .bool true)], by kernel_rfl, ?_⟩
    refine GL.run (j := 2) 1 [4] [(4, .bool true)] (by kernel_rfl) rfl ?_
    refine GL.k rfl hK105 (fun _ _ h => h) ?_
    refine G.ret ?_
    intro F_ hF_ hM_
    refine hRet _ _ (bodyPost_1 rfl (RV.tmp rfl) ?_ F_ hF_ hM_)
    exact ⟨rfl, H107.sub (List.nil_sublist _)⟩
end Go.Proofs.Ytgmggjnoegelgaa
