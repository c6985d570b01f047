/- MerkleProves: the row. -/
import Derived.Test.YtgmggjnoegelgaaZp5
set_option linter.unusedVariables false
namespace Go.Proofs.Ytgmggjnoegelgaa
open Go.RowKit
theorem MerkleProves_calls (A : Option Addr) (c : Nat) (l : List (List UInt8)) (z : Int) (g : List UInt8) (hg : g.length = 32) (w : World) (hx : RdS w A (by8 (flat8 l))) (hok : ok32 l) (hc : l.length ≤ c) : Calls Try.prog 6 #[.slice A l.length c, .int .i64 z, .agg (by8 g).toArray] w fun e w' => e = .returned (.bool true) ∧ Hp w [] [] w' := by
  refine calls_G (args := [.slice A l.length c, .int .i64 z, .agg (by8 g).toArray]) Try.func6 rfl Try.ntmps6 rfl ?_
  intro Q0 hRet hNor hPan
  have H := Hp.start w
  have H : Hp w [] [] w := H
  refine G.seqK fun K1 hK2 => ?_
  refine G.region ?_
  obtain ⟨p3, w4, r5, H6⟩ := H.box (P := Try.prog) 25 (by8 g) (.agg (by8 g).toArray) rfl
  have H6 : Hp w [] [.blk p3 (by8 g) 25] w4 := H6
  refine GL.sem (j := 1) (r5) [0, 1, 5] [(0, .slice A l.length c), (1, .int .i64 z), (5, pt p3 0)] (by kernel_rfl) (by kernel_rfl) rfl ?_
  refine GL.run (j := 2) 1 [0, 1, 5] [(0, .slice A l.length c), (1, .int .i64 z), (5, pt p3 0)] (by kernel_rfl) rfl ?_
  refine GL.k rfl hK2 (fun _ _ h => h) ?_
  refine G.seqK fun K7 hK8 => ?_
  refine G.seqK fun K9 hK10 => ?_
  refine G.region ?_
  refine GL.call (j := 1) (lives_calls w4) (by kernel_rfl) rfl (fun e_ w11 hR => ?_)
  obtain ⟨rfl, H13⟩ := hR
  have H12 : Hp w [] [.blk p3 (by8 g) 25] w11 := H6.callNil H13
  refine ⟨_, rfl, [0, 1, 5, 16], [(0, .slice A l.length c), (1, .int .i64 z), (5, pt p3 0), (16, .bool true)], by kernel_rfl, ?_⟩
  refine GL.run (j := 8) 7 [0, 1, 5, 23] [(0, .slice A l.length c), (1, .int .i64 z), (5, pt p3 0), (23, .bool ((l.length : Int) == 0))] (by kernel_rfl) rfl ?_
  cases hb14 : ((l.length : Int) == 0)
  · skip
    have hb14f := ne_of_beq_false hb14
    refine GL.run (j := 13) 5 [0, 1, 5, 28] [(0, .slice A l.length c), (1, .int .i64 z), (5, pt p3 0), (28, .bool (decide (12 < (l.length : Int))))] (by kernel_rfl) rfl ?_
    cases hb15 : (decide (12 < (l.length : Int)))
    · skip
      have hb15f := of_decide_eq_false hb15
      refine GL.run (j := 14) 1 [0, 1, 5, 28, 29] [(0, .slice A l.length c), (1, .int .i64 z), (5, pt p3 0), (28, .bool false), (29, .slice A l.length c)] (by kernel_rfl) rfl ?_
      refine GL.call (j := 15) (Plain_calls A c l w11 (hx.hp H12) hok (by omega) (by omega)) (by kernel_rfl) rfl (fun e_ w18 hR => ?_)
      obtain ⟨A16, c17, rfl, H20⟩ := hR
      have H19 : Hp w [] [.blk p3 (by8 g) 25, .row A16 l.length c17 24 32 (by8 (flat8 l))] w18 := H12.callNew H20
      have hq21 := (H19.rowLe 1 rfl).1
      refine ⟨_, rfl, [0, 1, 5, 28, 30], [(0, .slice A l.length c), (1, .int .i64 z), (5, pt p3 0), (28, .bool false), (30, .slice A16 l.length c17)], by kernel_rfl, ?_⟩
      refine GL.call (j := 16) (Unlike_calls A16 c17 l w18 (H19.rdRowN 1 rfl) hok ((H19.rowLe 1 rfl).1) (by omega)) (by kernel_rfl) rfl (fun e_ w22 hR => ?_)
      obtain ⟨rfl, H24⟩ := hR
      have H23 : Hp w [] [.blk p3 (by8 g) 25, .row A16 l.length c17 24 32 (by8 (flat8 l))] w22 := H19.callNil H24
      refine ⟨_, rfl, [0, 1, 5, 28, 31], [(0, .slice A l.length c), (1, .int .i64 z), (5, pt p3 0), (28, .bool false), (31, .bool (unlH l))], by kernel_rfl, ?_⟩
      refine GL.run (j := 18) 2 [0, 1, 5, 33] [(0, .slice A l.length c), (1, .int .i64 z), (5, pt p3 0), (33, .bool (!(unlH l)))] (by kernel_rfl) rfl ?_
      refine GL.k rfl hK10 (fun _ _ h => h) ?_
      cases hb25 : (unlH l)
      · skip
        refine G.yes rfl ?_
        refine G.seqK fun K26 hK27 => ?_
        refine G.region ?_
        refine GL.call (j := 1) (lives_calls w22) (by kernel_rfl) rfl (fun e_ w28 hR => ?_)
        obtain ⟨rfl, H30⟩ := hR
        have H29 : Hp w [] [.blk p3 (by8 g) 25, .row A16 l.length c17 24 32 (by8 (flat8 l))] w28 := H23.callNil H30
        refine ⟨_, rfl, [34], [(34, .bool true)], by kernel_rfl, ?_⟩
        refine GL.run (j := 2) 1 [6] [(6, .bool true)] (by kernel_rfl) rfl ?_
        refine GL.k rfl hK27 (fun _ _ h => h) ?_
        refine G.ret ?_
        intro F_ hF_ hM_
        refine hRet _ _ (bodyPost_1 rfl (RV.tmp rfl) ?_ F_ hF_ hM_)
        exact ⟨rfl, H29.sub (List.nil_sublist _)⟩
      · skip
        have hui : unlH l = true := hb25
        refine G.no rfl ?_
        refine G.skipK hK8 (fun _ _ h => h) ?_
        refine G.seqK fun K31 hK32 => ?_
        refine G.region ?_
        refine GL.run (j := 5) 5 [0, 5, 36, 39] [(0, .slice A l.length c), (5, pt p3 0), (36, .int .u64 (IntKind.u64.wrap z)), (39, .int .u64 (IntKind.u64.wrap (l.length : Int)))] (by kernel_rfl) rfl ?_
        have e33 : (IntKind.u64.wrap z) = (((wz z) : Nat) : Int) := wz_is z
        have e34 : (IntKind.u64.wrap (l.length : Int)) = (l.length : Int) := in_u64 (by omega)
        refine GL.eq (M' := [(0, .slice A l.length c), (5, pt p3 0), (36, .int .u64 (((wz z) : Nat) : Int)), (39, .int .u64 (l.length : Int))]) (by rw [e33, e34]) ?_
        clear e33 e34
        have hl0 : l.length ≠ 0 := by omega
        obtain ⟨i, hi_⟩ : ∃ i : Nat, i = (wz z) % l.length := ⟨_, rfl⟩
        have hil : i < l.length := by rw [hi_]; exact Nat.mod_lt _ (by omega)
        refine GL.sem (j := 6) (run_remN (P := Try.prog) (t := 45) (a := (wz z)) (b := l.length) hl0 hi_ _) [0, 5, 40] [(0, .slice A l.length c), (5, pt p3 0), (40, .int .u64 (i : Int))] (by kernel_rfl) (by kernel_rfl) rfl ?_
        have hlf : leafB (l.length : Int) = true := by unfold leafB; exact decide_eq_true (by omega)
        have hce : chkE (l.length : Int) = 0 := by unfold chkE; rw [if_neg (by omega), if_pos hlf]
        have hwe : wayE l (i : Int) = 0 := by unfold wayE; rw [if_pos hce, if_pos (by omega)]
        have hwv : wayV l (i : Int) = wayH l i := by unfold wayV; rw [if_pos hwe]; simp
        have hrv : rootV l = rootH l := by unfold rootV; rw [if_pos (show rootE l = 0 from hce)]
        have hcw := climb_way l.length l i (Nat.le_refl _) hil hui
        have hwl : (wayV l (i : Int)).length ≤ 65536 := by rw [hwv, wayH_length l.length l i (Nat.le_refl _)]; exact Nat.le_trans (cntH_le _) (by omega)
        refine GL.run (j := 8) 2 [0, 1, 5] [(0, .slice A l.length c), (1, .int .i64 (IntKind.i64.wrap (i : Int))), (5, pt p3 0)] (by kernel_rfl) rfl ?_
        have e35 : (IntKind.i64.wrap (i : Int)) = (i : Int) := in_i64 (by omega)
        refine GL.eq (M' := [(0, .slice A l.length c), (1, .int .i64 (i : Int)), (5, pt p3 0)]) (by rw [e35]) ?_
        clear e35
        refine GL.k rfl hK32 (fun _ _ h => h) ?_
        refine G.seqK fun K36 hK37 => ?_
        refine G.region ?_
        refine GL.run (j := 1) 1 [0, 1, 5, 43] [(0, .slice A l.length c), (1, .int .i64 (i : Int)), (5, pt p3 0), (43, .slice A l.length c)] (by kernel_rfl) rfl ?_
        refine GL.call (j := 2) (Root_calls A c l w22 (hx.hp H23) hok (by omega)) (by kernel_rfl) rfl (fun e_ w38 hR => ?_)
        obtain ⟨rfl, H40⟩ := hR
        have H39 : Hp w [] [.blk p3 (by8 g) 25, .row A16 l.length c17 24 32 (by8 (flat8 l))] w38 := H23.callNil H40
        refine ⟨_, rfl, [0, 1, 5, 44], [(0, .slice A l.length c), (1, .int .i64 (i : Int)), (5, pt p3 0), (44, .tuple #[.agg (by8 (rootV l)).toArray, .int .i64 (((rootE l) : Nat) : Int)])], by kernel_rfl, ?_⟩
        refine GL.run (j := 5) 3 [0, 1, 5, 45, 46] [(0, .slice A l.length c), (1, .int .i64 (i : Int)), (5, pt p3 0), (45, .agg (by8 (rootV l)).toArray), (46, .int .i64 (((rootE l) : Nat) : Int))] (by kernel_rfl) rfl ?_
        obtain ⟨p41, w42, r43, H44⟩ := H39.alloc (P := Try.prog) 25 (by8 (List.replicate 32 0)) (by kernel_rfl)
        have H44 : Hp w [] [.blk p3 (by8 g) 25, .row A16 l.length c17 24 32 (by8 (flat8 l)), .blk p41 (by8 (List.replicate 32 0)) 25] w42 := H44
        refine GL.sem (j := 6) (r43) [0, 1, 5, 7, 45, 46] [(0, .slice A l.length c), (1, .int .i64 (i : Int)), (5, pt p3 0), (7, pt p41 0), (45, .agg (by8 (rootV l)).toArray), (46, .int .i64 (((rootE l) : Nat) : Int))] (by kernel_rfl) (by kernel_rfl) rfl ?_
        obtain ⟨w45, r46, H47⟩ := H44.stA (P := Try.prog) (o := 0) (vs := by8 (rootV l)) (ty := 25) (m := 32) 2 rfl (by kernel_rfl) (by rw [by8_length, rootV_length hok]) (Nat.le_of_eq (by rw [Nat.zero_add]; exact ((show (by8 (List.replicate 32 0)).length = 32 from by rw [by8_length]; rfl)).symm)) (by8_one _)
        rw [st_whole (by rw [by8_length]; rfl)] at H47
        have H47 : Hp w [] [.blk p3 (by8 g) 25, .row A16 l.length c17 24 32 (by8 (flat8 l)), .blk p41 (by8 (rootV l)) 25] w45 := H47
        refine GL.semU (j := 7) r46 [0, 1, 5, 7, 46] [(0, .slice A l.length c), (1, .int .i64 (i : Int)), (5, pt p3 0), (7, pt p41 0), (46, .int .i64 (((rootE l) : Nat) : Int))] (by kernel_rfl) rfl rfl rfl ?_
        refine GL.run (j := 8) 1 [0, 1, 5, 7, 8] [(0, .slice A l.length c), (1, .int .i64 (i : Int)), (5, pt p3 0), (7, pt p41 0), (8, .int .i64 (((rootE l) : Nat) : Int))] (by kernel_rfl) rfl ?_
        refine GL.k rfl hK37 (fun _ _ h => h) ?_
        refine G.seqK fun K48 hK49 => ?_
        refine G.region ?_
        refine GL.run (j := 2) 2 [0, 1, 5, 7, 8, 48, 49] [(0, .slice A l.length c), (1, .int .i64 (i : Int)), (5, pt p3 0), (7, pt p41 0), (8, .int .i64 (((rootE l) : Nat) : Int)), (48, .slice A l.length c), (49, .int .i64 (i : Int))] (by kernel_rfl) rfl ?_
        refine GL.call (j := 3) (Way_calls A c l (i : Int) w45 (hx.hp H47) hok (by omega) (by omega)) (by kernel_rfl) rfl (fun e_ w52 hR => ?_)
        obtain ⟨A50, c51, rfl, H54⟩ := hR
        have H53 : Hp w [] [.blk p3 (by8 g) 25, .row A16 l.length c17 24 32 (by8 (flat8 l)), .blk p41 (by8 (rootV l)) 25, .row A50 ((wayV l (i : Int)).length) c51 25 32 (by8 (flat8 (wayV l (i : Int))))] w52 := H47.callNew H54
        have hqH53 := (H53.rowLe 3 rfl).1
        refine ⟨_, rfl, [0, 1, 5, 7, 8, 50], [(0, .slice A l.length c), (1, .int .i64 (i : Int)), (5, pt p3 0), (7, pt p41 0), (8, .int .i64 (((rootE l) : Nat) : Int)), (50, .tuple #[.slice A50 ((wayV l (i : Int)).length) c51, .int .i64 (((wayE l (i : Int)) : Nat) : Int)])], by kernel_rfl, ?_⟩
        refine GL.run (j := 8) 5 [0, 1, 5, 7, 8, 9, 10] [(0, .slice A l.length c), (1, .int .i64 (i : Int)), (5, pt p3 0), (7, pt p41 0), (8, .int .i64 (((rootE l) : Nat) : Int)), (9, .slice A50 ((wayV l (i : Int)).length) c51), (10, .int .i64 (((wayE l (i : Int)) : Nat) : Int))] (by kernel_rfl) rfl ?_
        refine GL.k rfl hK49 (fun _ _ h => h) ?_
        refine G.seqK fun K55 hK56 => ?_
        refine G.seqK fun K57 hK58 => ?_
        refine G.heldP (Hp w [] [.blk p3 (by8 g) 25, .row A16 l.length c17 24 32 (by8 (flat8 l)), .blk p41 (by8 (rootV l)) 25, .row A50 ((wayV l (i : Int)).length) c51 25 32 (by8 (flat8 (wayV l (i : Int))))]) (by kernel_rfl) (by kernel_rfl) (fun c_ a_ d_ v_ w_ h_ => hPan c_ a_ d_ v_ w_ h_) ?_
        have H59 := H53.drew
        generalize ({ w52 with drawn := w52.drawn + 1 } : World) = w60 at H59 ⊢
        have hS61 : Hp w [] [.blk p3 (by8 g) 25, .row A16 l.length c17 24 32 (by8 (flat8 l)), .blk p41 (by8 (rootV l)) 25, .row A50 ((wayV l (i : Int)).length) c51 25 32 (by8 (flat8 (wayV l (i : Int))))] w60 := H59.sub (List.Sublist.cons_cons _ (List.Sublist.cons_cons _ (List.Sublist.cons_cons _ (List.Sublist.cons_cons _ (List.Sublist.slnil)))))
        refine GP.run [0, 1, 2] [0, 1, 5, 7, 9, 10, 55] [(0, .slice A l.length c), (1, .int .i64 (i : Int)), (5, pt p3 0), (7, pt p41 0), (9, .slice A50 ((wayV l (i : Int)).length) c51), (10, .int .i64 (((wayE l (i : Int)) : Nat) : Int)), (55, .bool ((((rootE l) : Nat) : Int) != 0))] [0, 1, 2] (by kernel_rfl) rfl hS61 ?_
        have hb62 : ((((rootE l) : Nat) : Int) != 0) = false := by rw [show rootE l = 0 from hce]; rfl
        rw [hb62]
        refine GP.run [3, 4, 5, 6] [0, 1, 5, 7, 9, 59] [(0, .slice A l.length c), (1, .int .i64 (i : Int)), (5, pt p3 0), (7, pt p41 0), (9, .slice A50 ((wayV l (i : Int)).length) c51), (59, .bool ((((wayE l (i : Int)) : Nat) : Int) != 0))] [0, 1, 2, 3, 4, 5, 6] (by kernel_rfl) rfl hS61 ?_
        have hb63 : ((((wayE l (i : Int)) : Nat) : Int) != 0) = false := by rw [hwe]; rfl
        rw [hb63]
        refine GP.sem 7 (fun w_ H_ => H_.ldA (o := 0) (ty := 25) (m := 32) (sub := by8 (rootV l)) 2 rfl (by kernel_rfl) (sub_whole (by rw [by8_length, rootV_length hok])) (by rw [by8_length, rootV_length hok])) [0, 1, 5, 7, 9, 59, 60] [(0, .slice A l.length c), (1, .int .i64 (i : Int)), (5, pt p3 0), (7, pt p41 0), (9, .slice A50 ((wayV l (i : Int)).length) c51), (59, .bool false), (60, .agg (by8 (rootV l)).toArray)] (by kernel_rfl) (by kernel_rfl) (by kernel_rfl) hS61 ?_
        refine GP.run [8, 9] [0, 1, 5, 7, 9, 59, 60, 61, 62] [(0, .slice A l.length c), (1, .int .i64 (i : Int)), (5, pt p3 0), (7, pt p41 0), (9, .slice A50 ((wayV l (i : Int)).length) c51), (59, .bool false), (60, .agg (by8 (rootV l)).toArray), (61, .slice A l.length c), (62, .int .i64 (i : Int))] [0, 1, 2, 3, 4, 5, 6, 7, 8, 9] (by kernel_rfl) rfl hS61 ?_
        refine GP.sem 10 (fun w_ H_ => run_idxRdN (P := Try.prog) (k := .i64) (t := 22) (sz := 32) (A := A) (len := l.length) (cap := c) (j := i) (by kernel_rfl) rfl (hx.hp H_) (by rw [by8_length]; exact flat8_length hok) (by decide) (by omega)) [0, 1, 5, 7, 9, 59, 60, 63] [(0, .slice A l.length c), (1, .int .i64 (i : Int)), (5, pt p3 0), (7, pt p41 0), (9, .slice A50 ((wayV l (i : Int)).length) c51), (59, .bool false), (60, .agg (by8 (rootV l)).toArray), (63, .pointer (Option.map (fun x => Addr.add x (i * 32)) A))] (by kernel_rfl) (by kernel_rfl) (by kernel_rfl) hS61 ?_
        refine GP.sem 11 (fun w_ H_ => run_ldRdA (P := Try.prog) (ty := 25) (m := 32) (o := (i * 32)) (A := A) (sub := by8 (l.getD i [])) (by kernel_rfl) (hx.hp H_) (flat8_sub hok (by omega)) (by rw [by8_length, ok32_at hok (by omega)]) (by decide)) [0, 1, 5, 7, 9, 59, 60, 64] [(0, .slice A l.length c), (1, .int .i64 (i : Int)), (5, pt p3 0), (7, pt p41 0), (9, .slice A50 ((wayV l (i : Int)).length) c51), (59, .bool false), (60, .agg (by8 (rootV l)).toArray), (64, .agg (by8 (l.getD i [])).toArray)] (by kernel_rfl) (by kernel_rfl) (by kernel_rfl) hS61 ?_
        refine GP.run [12, 13, 14, 15] [0, 1, 5, 7, 9, 59, 60, 64, 65, 67, 68] [(0, .slice A l.length c), (1, .int .i64 (i : Int)), (5, pt p3 0), (7, pt p41 0), (9, .slice A50 ((wayV l (i : Int)).length) c51), (59, .bool false), (60, .agg (by8 (rootV l)).toArray), (64, .agg (by8 (l.getD i [])).toArray), (65, .int .i64 (i : Int)), (67, .int .i64 (l.length : Int)), (68, .slice A50 ((wayV l (i : Int)).length) c51)] [0, 1, 2, 3, 4, 5, 6, 7, 8, 9, 10, 11, 12, 13, 14, 15] (by kernel_rfl) rfl hS61 ?_
        refine GP.call 16 (Check_calls2 (rootV l) (by rw [rootV_length hok]) (l.getD i []) (by rw [ok32_at hok (by omega)]) (i : Int) (l.length : Int) A50 c51 (wayV l (i : Int)) w60 (H59.rdRowN 3 rfl) (by rw [hwv]; exact ok32_wayH l.length l i (Nat.le_refl _) hok) ((H59.rowLe 3 rfl).1)) (by kernel_rfl) (by kernel_rfl) (fun e_ w64 hR => ?_)
        obtain ⟨rfl, H66⟩ := hR
        have H65 : Hp w [] [.blk p3 (by8 g) 25, .row A16 l.length c17 24 32 (by8 (flat8 l)), .blk p41 (by8 (rootV l)) 25, .row A50 ((wayV l (i : Int)).length) c51 25 32 (by8 (flat8 (wayV l (i : Int))))] w64 := H59.callNil H66
        have hS67 : Hp w [] [.blk p3 (by8 g) 25, .row A16 l.length c17 24 32 (by8 (flat8 l)), .blk p41 (by8 (rootV l)) 25, .row A50 ((wayV l (i : Int)).length) c51 25 32 (by8 (flat8 (wayV l (i : Int))))] w64 := H65.sub (List.Sublist.cons_cons _ (List.Sublist.cons_cons _ (List.Sublist.cons_cons _ (List.Sublist.cons_cons _ (List.Sublist.slnil)))))
        refine ⟨_, rfl, hS67, [0, 1, 5, 7, 9, 59, 69], [(0, .slice A l.length c), (1, .int .i64 (i : Int)), (5, pt p3 0), (7, pt p41 0), (9, .slice A50 ((wayV l (i : Int)).length) c51), (59, .bool false), (69, .bool (checkB (wayV l (i : Int)) (rootV l) (l.getD i []) (i : Int) (l.length : Int)))], by kernel_rfl, ?_⟩
        refine GP.run [17, 18] [0, 1, 5, 7, 9, 71] [(0, .slice A l.length c), (1, .int .i64 (i : Int)), (5, pt p3 0), (7, pt p41 0), (9, .slice A50 ((wayV l (i : Int)).length) c51), (71, .bool (!(checkB (wayV l (i : Int)) (rootV l) (l.getD i []) (i : Int) (l.length : Int))))] [0, 1, 2, 3, 4, 5, 6, 7, 8, 9, 10, 11, 12, 13, 14, 15, 16, 17, 18] (by kernel_rfl) rfl hS67 ?_
        refine GP.k (by kernel_rfl) hK58 (fun _ _ h => h) ?_
        have hb68 : (!(checkB (wayV l (i : Int)) (rootV l) (l.getD i []) (i : Int) (l.length : Int))) = false := by rw [show (checkB (wayV l (i : Int)) (rootV l) (l.getD i []) (i : Int) (l.length : Int)) = true from by rw [check_is hlf hil, hwv, hrv]; exact decide_eq_true hcw]; rfl
        rw [hb68]
        refine G.no rfl ?_
        refine G.skipK hK56 (fun _ _ h => h) ?_
        refine G.seqK fun K69 hK70 => ?_
        refine G.seqK fun K71 hK72 => ?_
        refine G.heldP (Hp w [] [.blk p3 (by8 g) 25, .row A16 l.length c17 24 32 (by8 (flat8 l)), .blk p41 (by8 (rootV l)) 25, .row A50 ((wayV l (i : Int)).length) c51 25 32 (by8 (flat8 (wayV l (i : Int))))]) (by kernel_rfl) (by kernel_rfl) (fun c_ a_ d_ v_ w_ h_ => hPan c_ a_ d_ v_ w_ h_) ?_
        have H73 := H65.drew
        generalize ({ w64 with drawn := w64.drawn + 1 } : World) = w74 at H73 ⊢
        have hS75 : Hp w [] [.blk p3 (by8 g) 25, .row A16 l.length c17 24 32 (by8 (flat8 l)), .blk p41 (by8 (rootV l)) 25, .row A50 ((wayV l (i : Int)).length) c51 25 32 (by8 (flat8 (wayV l (i : Int))))] w74 := H73.sub (List.Sublist.cons_cons _ (List.Sublist.cons_cons _ (List.Sublist.cons_cons _ (List.Sublist.cons_cons _ (List.Sublist.slnil)))))
        refine GP.sem 0 (fun w_ H_ => H_.ldA (o := 0) (ty := 25) (m := 32) (sub := by8 g) 0 rfl (by kernel_rfl) (sub_whole (by rw [by8_length, hg])) (by rw [by8_length, hg])) [0, 1, 5, 7, 9, 72] [(0, .slice A l.length c), (1, .int .i64 (i : Int)), (5, pt p3 0), (7, pt p41 0), (9, .slice A50 ((wayV l (i : Int)).length) c51), (72, .agg (by8 g).toArray)] (by kernel_rfl) (by kernel_rfl) (by kernel_rfl) hS75 ?_
        refine GP.run [1, 2] [0, 1, 5, 7, 9, 72, 73, 74] [(0, .slice A l.length c), (1, .int .i64 (i : Int)), (5, pt p3 0), (7, pt p41 0), (9, .slice A50 ((wayV l (i : Int)).length) c51), (72, .agg (by8 g).toArray), (73, .slice A l.length c), (74, .int .i64 (i : Int))] [0, 1, 2] (by kernel_rfl) rfl hS75 ?_
        refine GP.sem 3 (fun w_ H_ => run_idxRdN (P := Try.prog) (k := .i64) (t := 22) (sz := 32) (A := A) (len := l.length) (cap := c) (j := i) (by kernel_rfl) rfl (hx.hp H_) (by rw [by8_length]; exact flat8_length hok) (by decide) (by omega)) [0, 1, 5, 7, 9, 72, 75] [(0, .slice A l.length c), (1, .int .i64 (i : Int)), (5, pt p3 0), (7, pt p41 0), (9, .slice A50 ((wayV l (i : Int)).length) c51), (72, .agg (by8 g).toArray), (75, .pointer (Option.map (fun x => Addr.add x (i * 32)) A))] (by kernel_rfl) (by kernel_rfl) (by kernel_rfl) hS75 ?_
        refine GP.sem 4 (fun w_ H_ => run_ldRdA (P := Try.prog) (ty := 25) (m := 32) (o := (i * 32)) (A := A) (sub := by8 (l.getD i [])) (by kernel_rfl) (hx.hp H_) (flat8_sub hok (by omega)) (by rw [by8_length, ok32_at hok (by omega)]) (by decide)) [0, 1, 5, 7, 9, 72, 76] [(0, .slice A l.length c), (1, .int .i64 (i : Int)), (5, pt p3 0), (7, pt p41 0), (9, .slice A50 ((wayV l (i : Int)).length) c51), (72, .agg (by8 g).toArray), (76, .agg (by8 (l.getD i [])).toArray)] (by kernel_rfl) (by kernel_rfl) (by kernel_rfl) hS75 ?_
        refine GP.sem 5 (fun w_ H_ => run_by8_eql (P := Try.prog) (t := 25) (n := 32) (x := (.tmp 72)) (y := (.tmp 76)) (by kernel_rfl) g (l.getD i []) (by rw [hg]) (by rw [ok32_at hok (by omega)]) _) [0, 1, 5, 7, 9, 77] [(0, .slice A l.length c), (1, .int .i64 (i : Int)), (5, pt p3 0), (7, pt p41 0), (9, .slice A50 ((wayV l (i : Int)).length) c51), (77, .bool (decide (g = (l.getD i []))))] (by kernel_rfl) (by kernel_rfl) (by kernel_rfl) hS75 ?_
        refine GP.run [6] [0, 1, 5, 7, 9, 78] [(0, .slice A l.length c), (1, .int .i64 (i : Int)), (5, pt p3 0), (7, pt p41 0), (9, .slice A50 ((wayV l (i : Int)).length) c51), (78, .bool (decide (g = (l.getD i []))))] [0, 1, 2, 3, 4, 5, 6] (by kernel_rfl) rfl hS75 ?_
        cases hb76 : (decide (g = (l.getD i [])))
        · skip
          have hb76f := of_decide_eq_false hb76
          have hne0 : g ≠ l.getD i [] := of_decide_eq_false hb76
          refine GP.sem 7 (fun w_ H_ => H_.ldA (o := 0) (ty := 25) (m := 32) (sub := by8 (rootV l)) 2 rfl (by kernel_rfl) (sub_whole (by rw [by8_length, rootV_length hok])) (by rw [by8_length, rootV_length hok])) [0, 1, 5, 9, 78, 79] [(0, .slice A l.length c), (1, .int .i64 (i : Int)), (5, pt p3 0), (9, .slice A50 ((wayV l (i : Int)).length) c51), (78, .bool false), (79, .agg (by8 (rootV l)).toArray)] (by kernel_rfl) (by kernel_rfl) (by kernel_rfl) hS75 ?_
          refine GP.sem 8 (fun w_ H_ => H_.ldA (o := 0) (ty := 25) (m := 32) (sub := by8 g) 0 rfl (by kernel_rfl) (sub_whole (by rw [by8_length, hg])) (by rw [by8_length, hg])) [0, 1, 5, 9, 78, 79, 80] [(0, .slice A l.length c), (1, .int .i64 (i : Int)), (5, pt p3 0), (9, .slice A50 ((wayV l (i : Int)).length) c51), (78, .bool false), (79, .agg (by8 (rootV l)).toArray), (80, .agg (by8 g).toArray)] (by kernel_rfl) (by kernel_rfl) (by kernel_rfl) hS75 ?_
          refine GP.run [9, 10, 11, 12] [0, 1, 5, 9, 78, 79, 80, 81, 83, 84] [(0, .slice A l.length c), (1, .int .i64 (i : Int)), (5, pt p3 0), (9, .slice A50 ((wayV l (i : Int)).length) c51), (78, .bool false), (79, .agg (by8 (rootV l)).toArray), (80, .agg (by8 g).toArray), (81, .int .i64 (i : Int)), (83, .int .i64 (l.length : Int)), (84, .slice A50 ((wayV l (i : Int)).length) c51)] [0, 1, 2, 3, 4, 5, 6, 7, 8, 9, 10, 11, 12] (by kernel_rfl) rfl hS75 ?_
          refine GP.call 13 (Check_calls2 (rootV l) (by rw [rootV_length hok]) g (by rw [hg]) (i : Int) (l.length : Int) A50 c51 (wayV l (i : Int)) w74 (H73.rdRowN 3 rfl) (by rw [hwv]; exact ok32_wayH l.length l i (Nat.le_refl _) hok) ((H73.rowLe 3 rfl).1)) (by kernel_rfl) (by kernel_rfl) (fun e_ w77 hR => ?_)
          obtain ⟨rfl, H79⟩ := hR
          have H78 : Hp w [] [.blk p3 (by8 g) 25, .row A16 l.length c17 24 32 (by8 (flat8 l)), .blk p41 (by8 (rootV l)) 25, .row A50 ((wayV l (i : Int)).length) c51 25 32 (by8 (flat8 (wayV l (i : Int))))] w77 := H73.callNil H79
          have hS80 : Hp w [] [.blk p3 (by8 g) 25, .row A16 l.length c17 24 32 (by8 (flat8 l)), .blk p41 (by8 (rootV l)) 25, .row A50 ((wayV l (i : Int)).length) c51 25 32 (by8 (flat8 (wayV l (i : Int))))] w77 := H78.sub (List.Sublist.cons_cons _ (List.Sublist.cons_cons _ (List.Sublist.cons_cons _ (List.Sublist.cons_cons _ (List.Sublist.slnil)))))
          refine ⟨_, rfl, hS80, [0, 1, 5, 9, 78, 85], [(0, .slice A l.length c), (1, .int .i64 (i : Int)), (5, pt p3 0), (9, .slice A50 ((wayV l (i : Int)).length) c51), (78, .bool false), (85, .bool (checkB (wayV l (i : Int)) (rootV l) g (i : Int) (l.length : Int)))], by kernel_rfl, ?_⟩
          refine GP.run [14, 15] [0, 1, 5, 9, 87] [(0, .slice A l.length c), (1, .int .i64 (i : Int)), (5, pt p3 0), (9, .slice A50 ((wayV l (i : Int)).length) c51), (87, .bool (!(checkB (wayV l (i : Int)) (rootV l) g (i : Int) (l.length : Int))))] [0, 1, 2, 3, 4, 5, 6, 7, 8, 9, 10, 11, 12, 13, 14, 15] (by kernel_rfl) rfl hS80 ?_
          refine GP.k (by kernel_rfl) hK72 (fun _ _ h => h) ?_
          cases hb81 : (checkB (wayV l (i : Int)) (rootV l) g (i : Int) (l.length : Int))
          · skip
            refine G.yes rfl ?_
            refine G.seqK fun K82 hK83 => ?_
            refine G.region ?_
            refine GL.run (j := 1) 1 [6] [(6, .bool true)] (by kernel_rfl) rfl ?_
            refine GL.k rfl hK83 (fun _ _ h => h) ?_
            refine G.ret ?_
            intro F_ hF_ hM_
            refine hRet _ _ (bodyPost_1 rfl (RV.tmp rfl) ?_ F_ hF_ hM_)
            exact ⟨rfl, H78.sub (List.nil_sublist _)⟩
          · skip
            have hco : climbR (wayV l (i : Int)) g i l.length = ((rootV l), true) := of_decide_eq_true (by rw [← check_is hlf hil]; exact hb81)
            have hcm : climbR (wayV l (i : Int)) (l.getD i []) i l.length = ((rootV l), true) := by rw [hwv, hrv]; exact hcw
            refine G.no rfl ?_
            refine G.skipK hK70 (fun _ _ h => h) ?_
            refine G.seqK fun K84 hK85 => ?_
            refine G.heldP (Hp w [] [.blk p3 (by8 g) 25, .row A16 l.length c17 24 32 (by8 (flat8 l)), .blk p41 (by8 (rootV l)) 25, .row A50 ((wayV l (i : Int)).length) c51 25 32 (by8 (flat8 (wayV l (i : Int))))]) (by kernel_rfl) (by kernel_rfl) (fun c_ a_ d_ v_ w_ h_ => hPan c_ a_ d_ v_ w_ h_) ?_
            have H86 := H78.drew
            generalize ({ w77 with drawn := w77.drawn + 1 } : World) = w87 at H86 ⊢
            have hS88 : Hp w [] [.blk p3 (by8 g) 25, .row A16 l.length c17 24 32 (by8 (flat8 l)), .blk p41 (by8 (rootV l)) 25, .row A50 ((wayV l (i : Int)).length) c51 25 32 (by8 (flat8 (wayV l (i : Int))))] w87 := H86.sub (List.Sublist.cons_cons _ (List.Sublist.cons_cons _ (List.Sublist.cons_cons _ (List.Sublist.cons_cons _ (List.Sublist.slnil)))))
            refine GP.run [0, 1] [0, 1, 5, 9, 88, 89] [(0, .slice A l.length c), (1, .int .i64 (i : Int)), (5, pt p3 0), (9, .slice A50 ((wayV l (i : Int)).length) c51), (88, .slice A l.length c), (89, .int .i64 (i : Int))] [0, 1] (by kernel_rfl) rfl hS88 ?_
            refine GP.sem 2 (fun w_ H_ => run_idxRdN (P := Try.prog) (k := .i64) (t := 22) (sz := 32) (A := A) (len := l.length) (cap := c) (j := i) (by kernel_rfl) rfl (hx.hp H_) (by rw [by8_length]; exact flat8_length hok) (by decide) (by omega)) [0, 1, 5, 9, 90] [(0, .slice A l.length c), (1, .int .i64 (i : Int)), (5, pt p3 0), (9, .slice A50 ((wayV l (i : Int)).length) c51), (90, .pointer (Option.map (fun x => Addr.add x (i * 32)) A))] (by kernel_rfl) (by kernel_rfl) (by kernel_rfl) hS88 ?_
            refine GP.sem 3 (fun w_ H_ => run_ldRdA (P := Try.prog) (ty := 25) (m := 32) (o := (i * 32)) (A := A) (sub := by8 (l.getD i [])) (by kernel_rfl) (hx.hp H_) (flat8_sub hok (by omega)) (by rw [by8_length, ok32_at hok (by omega)]) (by decide)) [0, 1, 5, 9, 91] [(0, .slice A l.length c), (1, .int .i64 (i : Int)), (5, pt p3 0), (9, .slice A50 ((wayV l (i : Int)).length) c51), (91, .agg (by8 (l.getD i [])).toArray)] (by kernel_rfl) (by kernel_rfl) (by kernel_rfl) hS88 ?_
            refine GP.sem 4 (fun w_ H_ => H_.ldA (o := 0) (ty := 25) (m := 32) (sub := by8 g) 0 rfl (by kernel_rfl) (sub_whole (by rw [by8_length, hg])) (by rw [by8_length, hg])) [0, 1, 9, 91, 92] [(0, .slice A l.length c), (1, .int .i64 (i : Int)), (9, .slice A50 ((wayV l (i : Int)).length) c51), (91, .agg (by8 (l.getD i [])).toArray), (92, .agg (by8 g).toArray)] (by kernel_rfl) (by kernel_rfl) (by kernel_rfl) hS88 ?_
            refine GP.run [5, 6] [1, 9, 91, 92, 94] [(1, .int .i64 (i : Int)), (9, .slice A50 ((wayV l (i : Int)).length) c51), (91, .agg (by8 (l.getD i [])).toArray), (92, .agg (by8 g).toArray), (94, .int .i64 (l.length : Int))] [0, 1, 2, 3, 4, 5, 6] (by kernel_rfl) rfl hS88 ?_
            refine GP.named fun Xd_ hXd_ => ?_
            have st112 : ∀ (wD_ : World) (p89 : Nat) (p99 : Nat), Hp w [] [.blk p3 (by8 g) 25, .row A16 l.length c17 24 32 (by8 (flat8 l)), .blk p41 (by8 (rootV l)) 25, .row A50 ((wayV l (i : Int)).length) c51 25 32 (by8 (flat8 (wayV l (i : Int)))), .blk p89 (by8 (List.replicate 32 0)) 24, .blk p99 (by8 (List.replicate 32 0)) 24] wD_ → Xd_ [0, 1, 2, 3, 4, 5, 6, 7, 8] [(1, .int .i64 (i : Int)), (9, .slice A50 ((wayV l (i : Int)).length) c51), (11, pt p89 0), (12, pt p99 0), (91, .agg (by8 (l.getD i [])).toArray), (92, .agg (by8 g).toArray), (94, .int .i64 (l.length : Int))] wD_ := by
              intro wD_ p89 p99 HD_
              rw [hXd_]
              have hS113 : Hp w [] [.blk p3 (by8 g) 25, .row A16 l.length c17 24 32 (by8 (flat8 l)), .blk p41 (by8 (rootV l)) 25, .row A50 ((wayV l (i : Int)).length) c51 25 32 (by8 (flat8 (wayV l (i : Int))))] wD_ := HD_.sub (List.Sublist.cons_cons _ (List.Sublist.cons_cons _ (List.Sublist.cons_cons _ (List.Sublist.cons_cons _ (List.Sublist.cons _ (List.Sublist.cons _ (List.Sublist.slnil)))))))
              obtain ⟨w114, r115, H116⟩ := HD_.stA (P := Try.prog) (o := 0) (vs := by8 (l.getD i [])) (ty := 24) (m := 32) 4 rfl (by kernel_rfl) (by rw [by8_length, ok32_at hok (by omega)]) (Nat.le_of_eq (by rw [Nat.zero_add]; exact ((show (by8 (List.replicate 32 0)).length = 32 from by rw [by8_length]; rfl)).symm)) (by8_one _)
              rw [st_whole (by rw [by8_length]; rfl)] at H116
              have H116 : Hp w [] [.blk p3 (by8 g) 25, .row A16 l.length c17 24 32 (by8 (flat8 l)), .blk p41 (by8 (rootV l)) 25, .row A50 ((wayV l (i : Int)).length) c51 25 32 (by8 (flat8 (wayV l (i : Int)))), .blk p89 (by8 (l.getD i [])) 24, .blk p99 (by8 (List.replicate 32 0)) 24] w114 := H116
              have hS117 : Hp w [] [.blk p3 (by8 g) 25, .row A16 l.length c17 24 32 (by8 (flat8 l)), .blk p41 (by8 (rootV l)) 25, .row A50 ((wayV l (i : Int)).length) c51 25 32 (by8 (flat8 (wayV l (i : Int))))] w114 := H116.sub (List.Sublist.cons_cons _ (List.Sublist.cons_cons _ (List.Sublist.cons_cons _ (List.Sublist.cons_cons _ (List.Sublist.cons _ (List.Sublist.cons _ (List.Sublist.slnil)))))))
              refine GP.semU 9 r115 [1, 9, 11, 12, 92, 94] [(1, .int .i64 (i : Int)), (9, .slice A50 ((wayV l (i : Int)).length) c51), (11, pt p89 0), (12, pt p99 0), (92, .agg (by8 g).toArray), (94, .int .i64 (l.length : Int))] (by kernel_rfl) rfl rfl (by kernel_rfl) hS117 ?_
              obtain ⟨w118, r119, H120⟩ := H116.stA (P := Try.prog) (o := 0) (vs := by8 g) (ty := 24) (m := 32) 5 rfl (by kernel_rfl) (by rw [by8_length, hg]) (Nat.le_of_eq (by rw [Nat.zero_add]; exact ((show (by8 (List.replicate 32 0)).length = 32 from by rw [by8_length]; rfl)).symm)) (by8_one _)
              rw [st_whole (by rw [by8_length]; rfl)] at H120
              have H120 : Hp w [] [.blk p3 (by8 g) 25, .row A16 l.length c17 24 32 (by8 (flat8 l)), .blk p41 (by8 (rootV l)) 25, .row A50 ((wayV l (i : Int)).length) c51 25 32 (by8 (flat8 (wayV l (i : Int)))), .blk p89 (by8 (l.getD i [])) 24, .blk p99 (by8 g) 24] w118 := H120
              have hS121 : Hp w [] [.blk p3 (by8 g) 25, .row A16 l.length c17 24 32 (by8 (flat8 l)), .blk p41 (by8 (rootV l)) 25, .row A50 ((wayV l (i : Int)).length) c51 25 32 (by8 (flat8 (wayV l (i : Int))))] w118 := H120.sub (List.Sublist.cons_cons _ (List.Sublist.cons_cons _ (List.Sublist.cons_cons _ (List.Sublist.cons_cons _ (List.Sublist.cons _ (List.Sublist.cons _ (List.Sublist.slnil)))))))
              refine GP.semU 10 r119 [1, 9, 11, 12, 94] [(1, .int .i64 (i : Int)), (9, .slice A50 ((wayV l (i : Int)).length) c51), (11, pt p89 0), (12, pt p99 0), (94, .int .i64 (l.length : Int))] (by kernel_rfl) rfl rfl (by kernel_rfl) hS121 ?_
              refine GP.run [11] [1, 9, 11, 12, 13] [(1, .int .i64 (i : Int)), (9, .slice A50 ((wayV l (i : Int)).length) c51), (11, pt p89 0), (12, pt p99 0), (13, .int .i64 (l.length : Int))] [0, 1, 2, 3, 4, 5, 6, 7, 8, 9, 10, 11] (by kernel_rfl) rfl hS121 ?_
              refine GP.k (by kernel_rfl) hK85 (fun _ _ h => h) ?_
              refine G.seqK fun K122 hK123 => ?_
              refine G.seqK fun K124 hK125 => ?_
              refine G.region ?_
              refine GL.run (j := 3) 3 [1, 11, 12, 13, 95, 96, 97] [(1, .int .i64 (i : Int)), (11, pt p89 0), (12, pt p99 0), (13, .int .i64 (l.length : Int)), (95, .slice A50 ((wayV l (i : Int)).length) c51), (96, .int .i64 (((wayV l (i : Int)).length : Nat) : Int)), (97, .int .i64 0)] (by kernel_rfl) rfl ?_
              refine GL.k rfl hK125 (fun _ _ h => h) ?_
              refine G.block ?_
              refine G.fit [1, 11, 12, 13, 95, 96, 97] (M' := [(1, .int .i64 (i : Int)), (11, pt p89 0), (12, pt p99 0), (13, .int .i64 (l.length : Int)), (95, .slice A50 ((wayV l (i : Int)).length) c51), (96, .int .i64 (((wayV l (i : Int)).length : Nat) : Int)), (97, .int .i64 0)]) (by kernel_rfl) ?_
              refine G.loop (X := Nat × List UInt8 × List UInt8 × Nat × Nat) (fun ⟨k, X, Y, j, p⟩ => [(1, .int .i64 (j : Int)), (11, pt p89 0), (12, pt p99 0), (13, .int .i64 (p : Int)), (95, .slice A50 ((wayV l (i : Int)).length) c51), (96, .int .i64 (((wayV l (i : Int)).length : Nat) : Int)), (97, .int .i64 (k : Int))]) (fun ⟨k, X, Y, j, p⟩ w_ => (climbR (List.drop k (wayV l (i : Int))) X j p = ((rootV l), true) ∧ climbR (List.drop k (wayV l (i : Int))) Y j p = ((rootV l), true) ∧ X ≠ Y ∧ X.length = 32 ∧ Y.length = 32 ∧ k ≤ (wayV l (i : Int)).length ∧ j < p ∧ p ≤ 65536) ∧ Hp w [] [.blk p3 (by8 g) 25, .row A16 l.length c17 24 32 (by8 (flat8 l)), .blk p41 (by8 (rootV l)) 25, .row A50 ((wayV l (i : Int)).length) c51 25 32 (by8 (flat8 (wayV l (i : Int)))), .blk p89 (by8 X) 24, .blk p99 (by8 Y) 24] w_) (fun ⟨k, X, Y, j, p⟩ => (wayV l (i : Int)).length - k) ⟨0, (l.getD i []), g, i, l.length⟩ [1, 11, 12, 13, 95, 96, 97] (by kernel_rfl) ⟨⟨hcm, hco, fun h => hne0 h.symm, ok32_at hok hil, hg, Nat.zero_le _, hil, by omega⟩, H120⟩ ?_
              rintro ⟨k, X, Y, j, p⟩ w126 ⟨hi127, H128⟩
              refine G.eq (M' := [(1, .int .i64 (j : Int)), (11, pt p89 0), (12, pt p99 0), (13, .int .i64 (p : Int)), (95, .slice A50 ((wayV l (i : Int)).length) c51), (96, .int .i64 (((wayV l (i : Int)).length : Nat) : Int)), (97, .int .i64 (k : Int))]) rfl ?_
              have H128 : Hp w [] [.blk p3 (by8 g) 25, .row A16 l.length c17 24 32 (by8 (flat8 l)), .blk p41 (by8 (rootV l)) 25, .row A50 ((wayV l (i : Int)).length) c51 25 32 (by8 (flat8 (wayV l (i : Int)))), .blk p89 (by8 X) 24, .blk p99 (by8 Y) 24] w126 := H128
              obtain ⟨hcx, hcy, hxy, hX, hY, hkl, hjp, hp16⟩ := hi127
              refine G.seqK fun K129 hK130 => ?_
              refine G.region ?_
              refine GL.run (j := 1) 1 [1, 11, 12, 13, 95, 96, 97, 98] [(1, .int .i64 (j : Int)), (11, pt p89 0), (12, pt p99 0), (13, .int .i64 (p : Int)), (95, .slice A50 ((wayV l (i : Int)).length) c51), (96, .int .i64 (((wayV l (i : Int)).length : Nat) : Int)), (97, .int .i64 (k : Int)), (98, .bool (decide ((k : Int) < (((wayV l (i : Int)).length : Nat) : Int))))] (by kernel_rfl) rfl ?_
              refine GL.k rfl hK130 (fun _ _ h => h) ?_
              refine G.seqK fun K131 hK132 => ?_
              cases hb133 : (decide ((k : Int) < (((wayV l (i : Int)).length : Nat) : Int)))
              · skip
                have hb133f := of_decide_eq_false hb133
                have hd_ : List.drop k (wayV l (i : Int)) = [] := List.drop_eq_nil_of_le (by omega)
                rw [hd_] at hcx hcy
                have hfin : False := hxy ((climbR_end hcx).trans (climbR_end hcy).symm)
                refine G.no rfl ?_
                refine G.exitK hK123 (fun _ _ h => h) ?_
                refine G.seqK fun K134 hK135 => ?_
                refine G.region ?_
                refine GL.run (j := 1) 1 [6] [(6, .bool false)] (by kernel_rfl) rfl ?_
                refine GL.k rfl hK135 (fun _ _ h => h) ?_
                refine G.ret ?_
                intro F_ hF_ hM_
                refine hRet _ _ (bodyPost_1 rfl (RV.tmp rfl) ?_ F_ hF_ hM_)
                exact hfin.elim
              · skip
                have hb133f := of_decide_eq_true hb133
                obtain ⟨hp1, hax, hcx2⟩ := climbR_in (by omega) hcx
                obtain ⟨_, hay, hcy2⟩ := climbR_in (by omega) hcy
                have hal : aloneB j p = false := by
                  cases ha : aloneB j p with
                  | false => rfl
                  | true => rw [ha] at hax hay; exact absurd ((of_decide_eq_true hax.symm).symm.trans (of_decide_eq_true hay.symm)) hxy
                refine G.yes rfl ?_
                refine G.skipK hK132 (fun _ _ h => h) ?_
                refine G.seqK fun K136 hK137 => ?_
                refine G.block ?_
                refine G.seqK fun K138 hK139 => ?_
                refine G.region ?_
                refine GL.sem (j := 1) (run_idxRdN (P := Try.prog) (k := .i64) (t := 22) (sz := 32) (A := A50) (len := (wayV l (i : Int)).length) (cap := c51) (j := k) (by kernel_rfl) rfl (H128.rdRowN 3 rfl) (by rw [by8_length]; exact flat8_length (by rw [hwv]; exact ok32_wayH l.length l i (Nat.le_refl _) hok)) (by decide) (by omega)) [1, 11, 12, 13, 95, 96, 97, 99] [(1, .int .i64 (j : Int)), (11, pt p89 0), (12, pt p99 0), (13, .int .i64 (p : Int)), (95, .slice A50 ((wayV l (i : Int)).length) c51), (96, .int .i64 (((wayV l (i : Int)).length : Nat) : Int)), (97, .int .i64 (k : Int)), (99, .pointer (Option.map (fun x => Addr.add x (k * 32)) A50))] (by kernel_rfl) (by kernel_rfl) rfl ?_
                refine GL.sem (j := 2) (run_ldRdA (P := Try.prog) (ty := 25) (m := 32) (o := (k * 32)) (A := A50) (sub := by8 ((wayV l (i : Int)).getD k [])) (by kernel_rfl) (H128.rdRowN 3 rfl) (flat8_sub (by rw [hwv]; exact ok32_wayH l.length l i (Nat.le_refl _) hok) (by omega)) (by rw [by8_length, ok32_at (by rw [hwv]; exact ok32_wayH l.length l i (Nat.le_refl _) hok) (by omega)]) (by decide)) [1, 11, 12, 13, 95, 96, 97, 100] [(1, .int .i64 (j : Int)), (11, pt p89 0), (12, pt p99 0), (13, .int .i64 (p : Int)), (95, .slice A50 ((wayV l (i : Int)).length) c51), (96, .int .i64 (((wayV l (i : Int)).length : Nat) : Int)), (97, .int .i64 (k : Int)), (100, .agg (by8 ((wayV l (i : Int)).getD k [])).toArray)] (by kernel_rfl) (by kernel_rfl) rfl ?_
                obtain ⟨p140, w141, r142, H143⟩ := H128.alloc (P := Try.prog) 25 (by8 (List.replicate 32 0)) (by kernel_rfl)
                have H143 : Hp w [] [.blk p3 (by8 g) 25, .row A16 l.length c17 24 32 (by8 (flat8 l)), .blk p41 (by8 (rootV l)) 25, .row A50 ((wayV l (i : Int)).length) c51 25 32 (by8 (flat8 (wayV l (i : Int)))), .blk p89 (by8 X) 24, .blk p99 (by8 Y) 24, .blk p140 (by8 (List.replicate 32 0)) 25] w141 := H143
                refine GL.sem (j := 3) (r142) [1, 11, 12, 13, 15, 95, 96, 97, 100] [(1, .int .i64 (j : Int)), (11, pt p89 0), (12, pt p99 0), (13, .int .i64 (p : Int)), (15, pt p140 0), (95, .slice A50 ((wayV l (i : Int)).length) c51), (96, .int .i64 (((wayV l (i : Int)).length : Nat) : Int)), (97, .int .i64 (k : Int)), (100, .agg (by8 ((wayV l (i : Int)).getD k [])).toArray)] (by kernel_rfl) (by kernel_rfl) rfl ?_
                obtain ⟨w144, r145, H146⟩ := H143.stA (P := Try.prog) (o := 0) (vs := by8 ((wayV l (i : Int)).getD k [])) (ty := 25) (m := 32) 6 rfl (by kernel_rfl) (by rw [by8_length, ok32_at (by rw [hwv]; exact ok32_wayH l.length l i (Nat.le_refl _) hok) (by omega)]) (Nat.le_of_eq (by rw [Nat.zero_add]; exact ((show (by8 (List.replicate 32 0)).length = 32 from by rw [by8_length]; rfl)).symm)) (by8_one _)
                rw [st_whole (by rw [by8_length]; rfl)] at H146
                have H146 : Hp w [] [.blk p3 (by8 g) 25, .row A16 l.length c17 24 32 (by8 (flat8 l)), .blk p41 (by8 (rootV l)) 25, .row A50 ((wayV l (i : Int)).length) c51 25 32 (by8 (flat8 (wayV l (i : Int)))), .blk p89 (by8 X) 24, .blk p99 (by8 Y) 24, .blk p140 (by8 ((wayV l (i : Int)).getD k [])) 25] w144 := H146
                refine GL.semU (j := 4) r145 [1, 11, 12, 13, 15, 95, 96, 97] [(1, .int .i64 (j : Int)), (11, pt p89 0), (12, pt p99 0), (13, .int .i64 (p : Int)), (15, pt p140 0), (95, .slice A50 ((wayV l (i : Int)).length) c51), (96, .int .i64 (((wayV l (i : Int)).length : Nat) : Int)), (97, .int .i64 (k : Int))] (by kernel_rfl) rfl rfl rfl ?_
                refine GL.k rfl hK139 (fun _ _ h => h) ?_
                refine G.seqK fun K147 hK148 => ?_
                refine G.seqK fun K149 hK150 => ?_
                refine G.region ?_
                refine GL.run (j := 3) 3 [1, 11, 12, 13, 15, 95, 96, 97, 103] [(1, .int .i64 (j : Int)), (11, pt p89 0), (12, pt p99 0), (13, .int .i64 (p : Int)), (15, pt p140 0), (95, .slice A50 ((wayV l (i : Int)).length) c51), (96, .int .i64 (((wayV l (i : Int)).length : Nat) : Int)), (97, .int .i64 (k : Int)), (103, .bool ((Int.tmod (j : Int) 2) == 1))] (by kernel_rfl) rfl ?_
                have e151 : (Int.tmod (j : Int) 2) = (((j % 2) : Nat) : Int) := n_rem _ 2
                refine GL.eq (M' := [(1, .int .i64 (j : Int)), (11, pt p89 0), (12, pt p99 0), (13, .int .i64 (p : Int)), (15, pt p140 0), (95, .slice A50 ((wayV l (i : Int)).length) c51), (96, .int .i64 (((wayV l (i : Int)).length : Nat) : Int)), (97, .int .i64 (k : Int)), (103, .bool ((((j % 2) : Nat) : Int) == 1))]) (by rw [e151]) ?_
                clear e151
                refine GL.k rfl hK150 (fun _ _ h => h) ?_
                cases hb152 : ((((j % 2) : Nat) : Int) == 1)
                · skip
                  have hb152f := ne_of_beq_false hb152
                  refine G.no rfl ?_
                  refine G.seqK fun K153 hK154 => ?_
                  refine G.region ?_
                  refine GL.run (j := 4) 4 [1, 11, 12, 13, 15, 95, 96, 97, 113] [(1, .int .i64 (j : Int)), (11, pt p89 0), (12, pt p99 0), (13, .int .i64 (p : Int)), (15, pt p140 0), (95, .slice A50 ((wayV l (i : Int)).length) c51), (96, .int .i64 (((wayV l (i : Int)).length : Nat) : Int)), (97, .int .i64 (k : Int)), (113, .bool ((Int.tmod (p : Int) 2) == 1))] (by kernel_rfl) rfl ?_
                  have e155 : (Int.tmod (p : Int) 2) = (((p % 2) : Nat) : Int) := n_rem _ 2
                  refine GL.eq (M' := [(1, .int .i64 (j : Int)), (11, pt p89 0), (12, pt p99 0), (13, .int .i64 (p : Int)), (15, pt p140 0), (95, .slice A50 ((wayV l (i : Int)).length) c51), (96, .int .i64 (((wayV l (i : Int)).length : Nat) : Int)), (97, .int .i64 (k : Int)), (113, .bool ((((p % 2) : Nat) : Int) == 1))]) (by rw [e155]) ?_
                  clear e155
                  cases hb156 : ((((p % 2) : Nat) : Int) == 1)
                  · skip
                    have hb156f := ne_of_beq_false hb156
                    refine GL.run (j := 9) 5 [1, 11, 12, 13, 15, 95, 96, 97, 118] [(1, .int .i64 (j : Int)), (11, pt p89 0), (12, pt p99 0), (13, .int .i64 (p : Int)), (15, pt p140 0), (95, .slice A50 ((wayV l (i : Int)).length) c51), (96, .int .i64 (((wayV l (i : Int)).length : Nat) : Int)), (97, .int .i64 (k : Int)), (118, .bool false)] (by kernel_rfl) rfl ?_
                    refine GL.k rfl hK154 (fun _ _ h => h) ?_
                    refine G.no rfl ?_
                    refine G.heldP (Hp w [] [.blk p3 (by8 g) 25, .row A16 l.length c17 24 32 (by8 (flat8 l)), .blk p41 (by8 (rootV l)) 25, .row A50 ((wayV l (i : Int)).length) c51 25 32 (by8 (flat8 (wayV l (i : Int)))), .blk p140 (by8 ((wayV l (i : Int)).getD k [])) 25]) (by kernel_rfl) (by kernel_rfl) (fun c_ a_ d_ v_ w_ h_ => hPan c_ a_ d_ v_ w_ h_) ?_
                    have H157 := H146.drew
                    generalize ({ w144 with drawn := w144.drawn + 1 } : World) = w158 at H157 ⊢
                    have hS159 : Hp w [] [.blk p3 (by8 g) 25, .row A16 l.length c17 24 32 (by8 (flat8 l)), .blk p41 (by8 (rootV l)) 25, .row A50 ((wayV l (i : Int)).length) c51 25 32 (by8 (flat8 (wayV l (i : Int)))), .blk p140 (by8 ((wayV l (i : Int)).getD k [])) 25] w158 := H157.sub (List.Sublist.cons_cons _ (List.Sublist.cons_cons _ (List.Sublist.cons_cons _ (List.Sublist.cons_cons _ (List.Sublist.cons _ (List.Sublist.cons _ (List.Sublist.cons_cons _ (List.Sublist.slnil))))))))
                    refine GP.sem 1 (fun w_ H_ => H_.ldA (o := 0) (ty := 25) (m := 32) (sub := by8 ((wayV l (i : Int)).getD k [])) 4 rfl (by kernel_rfl) (sub_whole (by rw [by8_length, ok32_at (by rw [hwv]; exact ok32_wayH l.length l i (Nat.le_refl _) hok) (by omega)])) (by rw [by8_length, ok32_at (by rw [hwv]; exact ok32_wayH l.length l i (Nat.le_refl _) hok) (by omega)])) [1, 11, 12, 13, 15, 95, 96, 97, 126] [(1, .int .i64 (j : Int)), (11, pt p89 0), (12, pt p99 0), (13, .int .i64 (p : Int)), (15, pt p140 0), (95, .slice A50 ((wayV l (i : Int)).length) c51), (96, .int .i64 (((wayV l (i : Int)).length : Nat) : Int)), (97, .int .i64 (k : Int)), (126, .agg (by8 ((wayV l (i : Int)).getD k [])).toArray)] (by kernel_rfl) (by kernel_rfl) (by kernel_rfl) hS159 ?_
                    refine GP.sem 4 (fun w_ H_ => H_.ldA (o := 0) (ty := 25) (m := 32) (sub := by8 ((wayV l (i : Int)).getD k [])) 4 rfl (by kernel_rfl) (sub_whole (by rw [by8_length, ok32_at (by rw [hwv]; exact ok32_wayH l.length l i (Nat.le_refl _) hok) (by omega)])) (by rw [by8_length, ok32_at (by rw [hwv]; exact ok32_wayH l.length l i (Nat.le_refl _) hok) (by omega)])) [1, 11, 12, 13, 95, 96, 97, 126, 129] [(1, .int .i64 (j : Int)), (11, pt p89 0), (12, pt p99 0), (13, .int .i64 (p : Int)), (95, .slice A50 ((wayV l (i : Int)).length) c51), (96, .int .i64 (((wayV l (i : Int)).length : Nat) : Int)), (97, .int .i64 (k : Int)), (126, .agg (by8 ((wayV l (i : Int)).getD k [])).toArray), (129, .agg (by8 ((wayV l (i : Int)).getD k [])).toArray)] (by kernel_rfl) (by kernel_rfl) (by kernel_rfl) hS159 ?_
                    refine GP.named fun Xd_ hXd_ => ?_
                    have st178 : ∀ (wD_ : World), Hp w [] [.blk p3 (by8 g) 25, .row A16 l.length c17 24 32 (by8 (flat8 l)), .blk p41 (by8 (rootV l)) 25, .row A50 ((wayV l (i : Int)).length) c51 25 32 (by8 (flat8 (wayV l (i : Int)))), .blk p89 (by8 X) 24, .blk p99 (by8 Y) 24, .blk p140 (by8 ((wayV l (i : Int)).getD k [])) 25] wD_ → Xd_ [1, 4, 0, 2, 3] [(1, .int .i64 (j : Int)), (11, pt p89 0), (12, pt p99 0), (13, .int .i64 (p : Int)), (95, .slice A50 ((wayV l (i : Int)).length) c51), (96, .int .i64 (((wayV l (i : Int)).length : Nat) : Int)), (97, .int .i64 (k : Int)), (127, .agg (by8 (bothH X ((wayV l (i : Int)).getD k []))).toArray), (128, .agg (by8 Y).toArray), (129, .agg (by8 ((wayV l (i : Int)).getD k [])).toArray)] wD_ := by
                      intro wD_ HD_
                      rw [hXd_]
                      have hS179 : Hp w [] [.blk p3 (by8 g) 25, .row A16 l.length c17 24 32 (by8 (flat8 l)), .blk p41 (by8 (rootV l)) 25, .row A50 ((wayV l (i : Int)).length) c51 25 32 (by8 (flat8 (wayV l (i : Int)))), .blk p140 (by8 ((wayV l (i : Int)).getD k [])) 25] wD_ := HD_.sub (List.Sublist.cons_cons _ (List.Sublist.cons_cons _ (List.Sublist.cons_cons _ (List.Sublist.cons_cons _ (List.Sublist.cons _ (List.Sublist.cons _ (List.Sublist.cons_cons _ (List.Sublist.slnil))))))))
                      refine GP.call 5 (RefBoth_calls Y ((wayV l (i : Int)).getD k []) (by rw [hY]) (by rw [ok32_at (by rw [hwv]; exact ok32_wayH l.length l i (Nat.le_refl _) hok) (by omega)]) wD_) (by kernel_rfl) (by kernel_rfl) (fun e_ w180 hR => ?_)
                      obtain ⟨rfl, H182⟩ := hR
                      have H181 : Hp w [] [.blk p3 (by8 g) 25, .row A16 l.length c17 24 32 (by8 (flat8 l)), .blk p41 (by8 (rootV l)) 25, .row A50 ((wayV l (i : Int)).length) c51 25 32 (by8 (flat8 (wayV l (i : Int)))), .blk p89 (by8 X) 24, .blk p99 (by8 Y) 24, .blk p140 (by8 ((wayV l (i : Int)).getD k [])) 25] w180 := HD_.callNil H182
                      have hS183 : Hp w [] [.blk p3 (by8 g) 25, .row A16 l.length c17 24 32 (by8 (flat8 l)), .blk p41 (by8 (rootV l)) 25, .row A50 ((wayV l (i : Int)).length) c51 25 32 (by8 (flat8 (wayV l (i : Int)))), .blk p140 (by8 ((wayV l (i : Int)).getD k [])) 25] w180 := H181.sub (List.Sublist.cons_cons _ (List.Sublist.cons_cons _ (List.Sublist.cons_cons _ (List.Sublist.cons_cons _ (List.Sublist.cons _ (List.Sublist.cons _ (List.Sublist.cons_cons _ (List.Sublist.slnil))))))))
                      refine ⟨_, rfl, hS183, [1, 11, 12, 13, 95, 96, 97, 127, 130], [(1, .int .i64 (j : Int)), (11, pt p89 0), (12, pt p99 0), (13, .int .i64 (p : Int)), (95, .slice A50 ((wayV l (i : Int)).length) c51), (96, .int .i64 (((wayV l (i : Int)).length : Nat) : Int)), (97, .int .i64 (k : Int)), (127, .agg (by8 (bothH X ((wayV l (i : Int)).getD k []))).toArray), (130, .agg (by8 (bothH Y ((wayV l (i : Int)).getD k []))).toArray)], by kernel_rfl, ?_⟩
                      obtain ⟨w184, r185, H186⟩ := H181.stA (P := Try.prog) (o := 0) (vs := by8 (bothH X ((wayV l (i : Int)).getD k []))) (ty := 24) (m := 32) 4 rfl (by kernel_rfl) (by rw [by8_length, bothH_length]) (Nat.le_of_eq (by rw [Nat.zero_add]; exact ((show (by8 X).length = 32 from by rw [by8_length, hX])).symm)) (by8_one _)
                      rw [st_whole (by rw [by8_length, hX])] at H186
                      have H186 : Hp w [] [.blk p3 (by8 g) 25, .row A16 l.length c17 24 32 (by8 (flat8 l)), .blk p41 (by8 (rootV l)) 25, .row A50 ((wayV l (i : Int)).length) c51 25 32 (by8 (flat8 (wayV l (i : Int)))), .blk p89 (by8 (bothH X ((wayV l (i : Int)).getD k []))) 24, .blk p99 (by8 Y) 24, .blk p140 (by8 ((wayV l (i : Int)).getD k [])) 25] w184 := H186
                      have hS187 : Hp w [] [.blk p3 (by8 g) 25, .row A16 l.length c17 24 32 (by8 (flat8 l)), .blk p41 (by8 (rootV l)) 25, .row A50 ((wayV l (i : Int)).length) c51 25 32 (by8 (flat8 (wayV l (i : Int)))), .blk p140 (by8 ((wayV l (i : Int)).getD k [])) 25] w184 := H186.sub (List.Sublist.cons_cons _ (List.Sublist.cons_cons _ (List.Sublist.cons_cons _ (List.Sublist.cons_cons _ (List.Sublist.cons _ (List.Sublist.cons _ (List.Sublist.cons_cons _ (List.Sublist.slnil))))))))
                      refine GP.semU 6 r185 [1, 11, 12, 13, 95, 96, 97, 130] [(1, .int .i64 (j : Int)), (11, pt p89 0), (12, pt p99 0), (13, .int .i64 (p : Int)), (95, .slice A50 ((wayV l (i : Int)).length) c51), (96, .int .i64 (((wayV l (i : Int)).length : Nat) : Int)), (97, .int .i64 (k : Int)), (130, .agg (by8 (bothH Y ((wayV l (i : Int)).getD k []))).toArray)] (by kernel_rfl) rfl rfl (by kernel_rfl) hS187 ?_
                      obtain ⟨w188, r189, H190⟩ := H186.stA (P := Try.prog) (o := 0) (vs := by8 (bothH Y ((wayV l (i : Int)).getD k []))) (ty := 24) (m := 32) 5 rfl (by kernel_rfl) (by rw [by8_length, bothH_length]) (Nat.le_of_eq (by rw [Nat.zero_add]; exact ((show (by8 Y).length = 32 from by rw [by8_length, hY])).symm)) (by8_one _)
                      rw [st_whole (by rw [by8_length, hY])] at H190
                      have H190 : Hp w [] [.blk p3 (by8 g) 25, .row A16 l.length c17 24 32 (by8 (flat8 l)), .blk p41 (by8 (rootV l)) 25, .row A50 ((wayV l (i : Int)).length) c51 25 32 (by8 (flat8 (wayV l (i : Int)))), .blk p89 (by8 (bothH X ((wayV l (i : Int)).getD k []))) 24, .blk p99 (by8 (bothH Y ((wayV l (i : Int)).getD k []))) 24, .blk p140 (by8 ((wayV l (i : Int)).getD k [])) 25] w188 := H190
                      have hS191 : Hp w [] [.blk p3 (by8 g) 25, .row A16 l.length c17 24 32 (by8 (flat8 l)), .blk p41 (by8 (rootV l)) 25, .row A50 ((wayV l (i : Int)).length) c51 25 32 (by8 (flat8 (wayV l (i : Int)))), .blk p140 (by8 ((wayV l (i : Int)).getD k [])) 25] w188 := H190.sub (List.Sublist.cons_cons _ (List.Sublist.cons_cons _ (List.Sublist.cons_cons _ (List.Sublist.cons_cons _ (List.Sublist.cons _ (List.Sublist.cons _ (List.Sublist.cons_cons _ (List.Sublist.slnil))))))))
                      refine GP.semU 7 r189 [1, 11, 12, 13, 95, 96, 97] [(1, .int .i64 (j : Int)), (11, pt p89 0), (12, pt p99 0), (13, .int .i64 (p : Int)), (95, .slice A50 ((wayV l (i : Int)).length) c51), (96, .int .i64 (((wayV l (i : Int)).length : Nat) : Int)), (97, .int .i64 (k : Int))] (by kernel_rfl) rfl rfl (by kernel_rfl) hS191 ?_
                      refine GP.k (by kernel_rfl) hK148 (fun _ _ h => h) ?_
                      refine G.seqK fun K192 hK193 => ?_
                      refine G.region ?_
                      refine GL.run (j := 7) 7 [1, 11, 12, 13, 95, 96, 97] [(1, .int .i64 (IntKind.i64.wrap (Int.tdiv (j : Int) 2))), (11, pt p89 0), (12, pt p99 0), (13, .int .i64 (IntKind.i64.wrap (Int.tdiv (IntKind.i64.wrap ((p : Int) + 1)) 2))), (95, .slice A50 ((wayV l (i : Int)).length) c51), (96, .int .i64 (((wayV l (i : Int)).length : Nat) : Int)), (97, .int .i64 (k : Int))] (by kernel_rfl) rfl ?_
                      have e194 : (IntKind.i64.wrap (Int.tdiv (j : Int) 2)) = (((j / 2) : Nat) : Int) := i_quo (a := j) 2 (by omega)
                      have e195 : (IntKind.i64.wrap ((p : Int) + 1)) = ((p + 1 : Nat) : Int) := by rw [in_i64 (by omega)]; omega
                      have e196 : (IntKind.i64.wrap (Int.tdiv ((p + 1 : Nat) : Int) 2)) = ((((p + 1) / 2) : Nat) : Int) := i_quo (a := (p + 1)) 2 (by omega)
                      refine GL.eq (M' := [(1, .int .i64 (((j / 2) : Nat) : Int)), (11, pt p89 0), (12, pt p99 0), (13, .int .i64 ((((p + 1) / 2) : Nat) : Int)), (95, .slice A50 ((wayV l (i : Int)).length) c51), (96, .int .i64 (((wayV l (i : Int)).length : Nat) : Int)), (97, .int .i64 (k : Int))]) (by rw [e194, e195, e196]) ?_
                      clear e194 e195 e196
                      refine GL.k rfl hK193 (fun _ _ h => h) ?_
                      refine G.seqK fun K197 hK198 => ?_
                      refine G.region ?_
                      refine GL.sem (j := 1) (H190.ldA (o := 0) (ty := 24) (m := 32) (sub := by8 (bothH X ((wayV l (i : Int)).getD k []))) 4 rfl (by kernel_rfl) (sub_whole (by rw [by8_length, bothH_length])) (by rw [by8_length, bothH_length])) [1, 11, 12, 13, 95, 96, 97, 136] [(1, .int .i64 (((j / 2) : Nat) : Int)), (11, pt p89 0), (12, pt p99 0), (13, .int .i64 ((((p + 1) / 2) : Nat) : Int)), (95, .slice A50 ((wayV l (i : Int)).length) c51), (96, .int .i64 (((wayV l (i : Int)).length : Nat) : Int)), (97, .int .i64 (k : Int)), (136, .agg (by8 (bothH X ((wayV l (i : Int)).getD k []))).toArray)] (by kernel_rfl) (by kernel_rfl) rfl ?_
                      refine GL.sem (j := 2) (H190.ldA (o := 0) (ty := 24) (m := 32) (sub := by8 (bothH Y ((wayV l (i : Int)).getD k []))) 5 rfl (by kernel_rfl) (sub_whole (by rw [by8_length, bothH_length])) (by rw [by8_length, bothH_length])) [1, 11, 12, 13, 95, 96, 97, 136, 137] [(1, .int .i64 (((j / 2) : Nat) : Int)), (11, pt p89 0), (12, pt p99 0), (13, .int .i64 ((((p + 1) / 2) : Nat) : Int)), (95, .slice A50 ((wayV l (i : Int)).length) c51), (96, .int .i64 (((wayV l (i : Int)).length : Nat) : Int)), (97, .int .i64 (k : Int)), (136, .agg (by8 (bothH X ((wayV l (i : Int)).getD k []))).toArray), (137, .agg (by8 (bothH Y ((wayV l (i : Int)).getD k []))).toArray)] (by kernel_rfl) (by kernel_rfl) rfl ?_
                      refine GL.sem (j := 3) (run_by8_eql (P := Try.prog) (t := 24) (n := 32) (x := (.tmp 136)) (y := (.tmp 137)) (by kernel_rfl) (bothH X ((wayV l (i : Int)).getD k [])) (bothH Y ((wayV l (i : Int)).getD k [])) (by rw [bothH_length]) (by rw [bothH_length]) _) [1, 11, 12, 13, 95, 96, 97, 138] [(1, .int .i64 (((j / 2) : Nat) : Int)), (11, pt p89 0), (12, pt p99 0), (13, .int .i64 ((((p + 1) / 2) : Nat) : Int)), (95, .slice A50 ((wayV l (i : Int)).length) c51), (96, .int .i64 (((wayV l (i : Int)).length : Nat) : Int)), (97, .int .i64 (k : Int)), (138, .bool (decide ((bothH X ((wayV l (i : Int)).getD k [])) = (bothH Y ((wayV l (i : Int)).getD k [])))))] (by kernel_rfl) (by kernel_rfl) rfl ?_
                      refine GL.k rfl hK198 (fun _ _ h => h) ?_
                      cases hb199 : (decide ((bothH X ((wayV l (i : Int)).getD k [])) = (bothH Y ((wayV l (i : Int)).getD k []))))
                      · skip
                        have hb199f := of_decide_eq_false hb199
                        have hne1 := of_decide_eq_false hb199
                        refine G.no rfl ?_
                        refine G.skipK hK137 (fun _ _ h => h) ?_
                        refine G.region ?_
                        refine GL.run (j := 2) 2 [1, 11, 12, 13, 95, 96, 97] [(1, .int .i64 (((j / 2) : Nat) : Int)), (11, pt p89 0), (12, pt p99 0), (13, .int .i64 ((((p + 1) / 2) : Nat) : Int)), (95, .slice A50 ((wayV l (i : Int)).length) c51), (96, .int .i64 (((wayV l (i : Int)).length : Nat) : Int)), (97, .int .i64 (IntKind.i64.wrap ((k : Int) + 1)))] (by kernel_rfl) rfl ?_
                        have e200 : (IntKind.i64.wrap ((k : Int) + 1)) = ((k + 1 : Nat) : Int) := by rw [in_i64 (by omega)]; omega
                        refine GL.eq (M' := [(1, .int .i64 (((j / 2) : Nat) : Int)), (11, pt p89 0), (12, pt p99 0), (13, .int .i64 ((((p + 1) / 2) : Nat) : Int)), (95, .slice A50 ((wayV l (i : Int)).length) c51), (96, .int .i64 (((wayV l (i : Int)).length : Nat) : Int)), (97, .int .i64 ((k + 1 : Nat) : Int))]) (by rw [e200]) ?_
                        clear e200
                        have H201 : Hp w [] [.blk p3 (by8 g) 25, .row A16 l.length c17 24 32 (by8 (flat8 l)), .blk p41 (by8 (rootV l)) 25, .row A50 ((wayV l (i : Int)).length) c51 25 32 (by8 (flat8 (wayV l (i : Int)))), .blk p89 (by8 (bothH X ((wayV l (i : Int)).getD k []))) 24, .blk p99 (by8 (bothH Y ((wayV l (i : Int)).getD k []))) 24] w188 := H190.sub (List.Sublist.cons_cons _ (List.Sublist.cons_cons _ (List.Sublist.cons_cons _ (List.Sublist.cons_cons _ (List.Sublist.cons_cons _ (List.Sublist.cons_cons _ (List.Sublist.cons _ (List.Sublist.slnil))))))))
                        refine GL.fit (ts := [1, 11, 12, 13, 95, 96, 97]) (M' := [(1, .int .i64 (((j / 2) : Nat) : Int)), (11, pt p89 0), (12, pt p99 0), (13, .int .i64 ((((p + 1) / 2) : Nat) : Int)), (95, .slice A50 ((wayV l (i : Int)).length) c51), (96, .int .i64 (((wayV l (i : Int)).length : Nat) : Int)), (97, .int .i64 ((k + 1 : Nat) : Int))]) (by kernel_rfl) ?_
                        refine GL.eq (M' := [(1, .int .i64 (((j / 2) : Nat) : Int)), (11, pt p89 0), (12, pt p99 0), (13, .int .i64 ((((p + 1) / 2) : Nat) : Int)), (95, .slice A50 ((wayV l (i : Int)).length) c51), (96, .int .i64 (((wayV l (i : Int)).length : Nat) : Int)), (97, .int .i64 (((k + 1) : Nat) : Int))]) (by rfl) ?_
                        exact GL.again ⟨(k + 1), (bothH X ((wayV l (i : Int)).getD k [])), (bothH Y ((wayV l (i : Int)).getD k [])), (j / 2), ((p + 1) / 2)⟩ [1, 11, 12, 13, 95, 96, 97] rfl (by kernel_rfl) (by show (wayV l (i : Int)).length - (k + 1) < (wayV l (i : Int)).length - k; omega) ⟨⟨by have h_ := hcx2; unfold turnH at h_; rw [if_neg (by omega)] at h_; exact h_, by have h_ := hcy2; unfold turnH at h_; rw [if_neg (by omega)] at h_; exact h_, hne1, bothH_length _ _, bothH_length _ _, by omega, by omega, by omega⟩, H201⟩
                      · skip
                        have hb199f := of_decide_eq_true hb199
                        refine G.yes rfl ?_
                        refine G.seqK fun K202 hK203 => ?_
                        refine G.region ?_
                        refine GL.run (j := 1) 1 [6] [(6, .bool true)] (by kernel_rfl) rfl ?_
                        refine GL.k rfl hK203 (fun _ _ h => h) ?_
                        refine G.ret ?_
                        intro F_ hF_ hM_
                        refine hRet _ _ (bodyPost_1 rfl (RV.tmp rfl) ?_ F_ hF_ hM_)
                        exact ⟨rfl, H190.sub (List.nil_sublist _)⟩
                    have st176 : ∀ (wD_ : World), Hp w [] [.blk p3 (by8 g) 25, .row A16 l.length c17 24 32 (by8 (flat8 l)), .blk p41 (by8 (rootV l)) 25, .row A50 ((wayV l (i : Int)).length) c51 25 32 (by8 (flat8 (wayV l (i : Int)))), .blk p89 (by8 X) 24, .blk p99 (by8 Y) 24, .blk p140 (by8 ((wayV l (i : Int)).getD k [])) 25] wD_ → Xd_ [1, 4, 0, 2] [(1, .int .i64 (j : Int)), (11, pt p89 0), (12, pt p99 0), (13, .int .i64 (p : Int)), (95, .slice A50 ((wayV l (i : Int)).length) c51), (96, .int .i64 (((wayV l (i : Int)).length : Nat) : Int)), (97, .int .i64 (k : Int)), (127, .agg (by8 (bothH X ((wayV l (i : Int)).getD k []))).toArray), (129, .agg (by8 ((wayV l (i : Int)).getD k [])).toArray)] wD_ := by
                      intro wD_ HD_
                      rw [hXd_]
                      have hS204 : Hp w [] [.blk p3 (by8 g) 25, .row A16 l.length c17 24 32 (by8 (flat8 l)), .blk p41 (by8 (rootV l)) 25, .row A50 ((wayV l (i : Int)).length) c51 25 32 (by8 (flat8 (wayV l (i : Int)))), .blk p140 (by8 ((wayV l (i : Int)).getD k [])) 25] wD_ := HD_.sub (List.Sublist.cons_cons _ (List.Sublist.cons_cons _ (List.Sublist.cons_cons _ (List.Sublist.cons_cons _ (List.Sublist.cons _ (List.Sublist.cons _ (List.Sublist.cons_cons _ (List.Sublist.slnil))))))))
                      refine GP.all1 3 (by kernel_rfl) ?_
                      · skip
                        have hS205 : Hp w [] [.blk p3 (by8 g) 25, .row A16 l.length c17 24 32 (by8 (flat8 l)), .blk p41 (by8 (rootV l)) 25, .row A50 ((wayV l (i : Int)).length) c51 25 32 (by8 (flat8 (wayV l (i : Int)))), .blk p140 (by8 ((wayV l (i : Int)).getD k [])) 25] wD_ := HD_.sub (List.Sublist.cons_cons _ (List.Sublist.cons_cons _ (List.Sublist.cons_cons _ (List.Sublist.cons_cons _ (List.Sublist.cons _ (List.Sublist.cons _ (List.Sublist.cons_cons _ (List.Sublist.slnil))))))))
                        have hS206 : Hp w [] [.blk p3 (by8 g) 25, .row A16 l.length c17 24 32 (by8 (flat8 l)), .blk p41 (by8 (rootV l)) 25, .row A50 ((wayV l (i : Int)).length) c51 25 32 (by8 (flat8 (wayV l (i : Int)))), .blk p140 (by8 ((wayV l (i : Int)).getD k [])) 25] wD_ := HD_.sub (List.Sublist.cons_cons _ (List.Sublist.cons_cons _ (List.Sublist.cons_cons _ (List.Sublist.cons_cons _ (List.Sublist.cons _ (List.Sublist.cons _ (List.Sublist.cons_cons _ (List.Sublist.slnil))))))))
                        refine GO.made (HD_.ldA (o := 0) (ty := 24) (m := 32) (sub := by8 Y) 5 rfl (by kernel_rfl) (sub_whole (by rw [by8_length, hY])) (by rw [by8_length, hY])) [1, 11, 12, 13, 95, 96, 97, 127, 128, 129] [(1, .int .i64 (j : Int)), (11, pt p89 0), (12, pt p99 0), (13, .int .i64 (p : Int)), (95, .slice A50 ((wayV l (i : Int)).length) c51), (96, .int .i64 (((wayV l (i : Int)).length : Nat) : Int)), (97, .int .i64 (k : Int)), (127, .agg (by8 (bothH X ((wayV l (i : Int)).getD k []))).toArray), (128, .agg (by8 Y).toArray), (129, .agg (by8 ((wayV l (i : Int)).getD k [])).toArray)] (by kernel_rfl) (by kernel_rfl) hS206 ?_
                        refine GP.perm [1, 4, 0, 2, 3] (by kernel_rfl) rfl ?_
                        rw [← hXd_]
                        exact st178 _ HD_
                    have st177 : ∀ (wD_ : World), Hp w [] [.blk p3 (by8 g) 25, .row A16 l.length c17 24 32 (by8 (flat8 l)), .blk p41 (by8 (rootV l)) 25, .row A50 ((wayV l (i : Int)).length) c51 25 32 (by8 (flat8 (wayV l (i : Int)))), .blk p89 (by8 X) 24, .blk p99 (by8 Y) 24, .blk p140 (by8 ((wayV l (i : Int)).getD k [])) 25] wD_ → Xd_ [1, 4, 0, 3] [(1, .int .i64 (j : Int)), (11, pt p89 0), (12, pt p99 0), (13, .int .i64 (p : Int)), (95, .slice A50 ((wayV l (i : Int)).length) c51), (96, .int .i64 (((wayV l (i : Int)).length : Nat) : Int)), (97, .int .i64 (k : Int)), (125, .agg (by8 X).toArray), (126, .agg (by8 ((wayV l (i : Int)).getD k [])).toArray), (128, .agg (by8 Y).toArray), (129, .agg (by8 ((wayV l (i : Int)).getD k [])).toArray)] wD_ := by
                      intro wD_ HD_
                      rw [hXd_]
                      have hS207 : Hp w [] [.blk p3 (by8 g) 25, .row A16 l.length c17 24 32 (by8 (flat8 l)), .blk p41 (by8 (rootV l)) 25, .row A50 ((wayV l (i : Int)).length) c51 25 32 (by8 (flat8 (wayV l (i : Int)))), .blk p140 (by8 ((wayV l (i : Int)).getD k [])) 25] wD_ := HD_.sub (List.Sublist.cons_cons _ (List.Sublist.cons_cons _ (List.Sublist.cons_cons _ (List.Sublist.cons_cons _ (List.Sublist.cons _ (List.Sublist.cons _ (List.Sublist.cons_cons _ (List.Sublist.slnil))))))))
                      refine GP.all1 2 (by kernel_rfl) ?_
                      · skip
                        have hS208 : Hp w [] [.blk p3 (by8 g) 25, .row A16 l.length c17 24 32 (by8 (flat8 l)), .blk p41 (by8 (rootV l)) 25, .row A50 ((wayV l (i : Int)).length) c51 25 32 (by8 (flat8 (wayV l (i : Int)))), .blk p140 (by8 ((wayV l (i : Int)).getD k [])) 25] wD_ := HD_.sub (List.Sublist.cons_cons _ (List.Sublist.cons_cons _ (List.Sublist.cons_cons _ (List.Sublist.cons_cons _ (List.Sublist.cons _ (List.Sublist.cons _ (List.Sublist.cons_cons _ (List.Sublist.slnil))))))))
                        refine GO.call (RefBoth_calls X ((wayV l (i : Int)).getD k []) (by rw [hX]) (by rw [ok32_at (by rw [hwv]; exact ok32_wayH l.length l i (Nat.le_refl _) hok) (by omega)]) wD_) (by kernel_rfl) (fun e_ w209 hR => ?_)
                        obtain ⟨rfl, H211⟩ := hR
                        have H210 : Hp w [] [.blk p3 (by8 g) 25, .row A16 l.length c17 24 32 (by8 (flat8 l)), .blk p41 (by8 (rootV l)) 25, .row A50 ((wayV l (i : Int)).length) c51 25 32 (by8 (flat8 (wayV l (i : Int)))), .blk p89 (by8 X) 24, .blk p99 (by8 Y) 24, .blk p140 (by8 ((wayV l (i : Int)).getD k [])) 25] w209 := HD_.callNil H211
                        have hS212 : Hp w [] [.blk p3 (by8 g) 25, .row A16 l.length c17 24 32 (by8 (flat8 l)), .blk p41 (by8 (rootV l)) 25, .row A50 ((wayV l (i : Int)).length) c51 25 32 (by8 (flat8 (wayV l (i : Int)))), .blk p140 (by8 ((wayV l (i : Int)).getD k [])) 25] w209 := H210.sub (List.Sublist.cons_cons _ (List.Sublist.cons_cons _ (List.Sublist.cons_cons _ (List.Sublist.cons_cons _ (List.Sublist.cons _ (List.Sublist.cons _ (List.Sublist.cons_cons _ (List.Sublist.slnil))))))))
                        refine ⟨_, rfl, hS212, [1, 11, 12, 13, 95, 96, 97, 127, 128, 129], [(1, .int .i64 (j : Int)), (11, pt p89 0), (12, pt p99 0), (13, .int .i64 (p : Int)), (95, .slice A50 ((wayV l (i : Int)).length) c51), (96, .int .i64 (((wayV l (i : Int)).length : Nat) : Int)), (97, .int .i64 (k : Int)), (127, .agg (by8 (bothH X ((wayV l (i : Int)).getD k []))).toArray), (128, .agg (by8 Y).toArray), (129, .agg (by8 ((wayV l (i : Int)).getD k [])).toArray)], by kernel_rfl, ?_⟩
                        refine GP.perm [1, 4, 0, 2, 3] (by kernel_rfl) rfl ?_
                        rw [← hXd_]
                        exact st178 _ H210
                    have st174 : ∀ (wD_ : World), Hp w [] [.blk p3 (by8 g) 25, .row A16 l.length c17 24 32 (by8 (flat8 l)), .blk p41 (by8 (rootV l)) 25, .row A50 ((wayV l (i : Int)).length) c51 25 32 (by8 (flat8 (wayV l (i : Int)))), .blk p89 (by8 X) 24, .blk p99 (by8 Y) 24, .blk p140 (by8 ((wayV l (i : Int)).getD k [])) 25] wD_ → Xd_ [1, 4, 0] [(1, .int .i64 (j : Int)), (11, pt p89 0), (12, pt p99 0), (13, .int .i64 (p : Int)), (95, .slice A50 ((wayV l (i : Int)).length) c51), (96, .int .i64 (((wayV l (i : Int)).length : Nat) : Int)), (97, .int .i64 (k : Int)), (125, .agg (by8 X).toArray), (126, .agg (by8 ((wayV l (i : Int)).getD k [])).toArray), (129, .agg (by8 ((wayV l (i : Int)).getD k [])).toArray)] wD_ := by
                      intro wD_ HD_
                      rw [hXd_]
                      have hS213 : Hp w [] [.blk p3 (by8 g) 25, .row A16 l.length c17 24 32 (by8 (flat8 l)), .blk p41 (by8 (rootV l)) 25, .row A50 ((wayV l (i : Int)).length) c51 25 32 (by8 (flat8 (wayV l (i : Int)))), .blk p140 (by8 ((wayV l (i : Int)).getD k [])) 25] wD_ := HD_.sub (List.Sublist.cons_cons _ (List.Sublist.cons_cons _ (List.Sublist.cons_cons _ (List.Sublist.cons_cons _ (List.Sublist.cons _ (List.Sublist.cons _ (List.Sublist.cons_cons _ (List.Sublist.slnil))))))))
                      refine GP.all2 2 3 (by kernel_rfl) ?_ ?_
                      · skip
                        have hS214 : Hp w [] [.blk p3 (by8 g) 25, .row A16 l.length c17 24 32 (by8 (flat8 l)), .blk p41 (by8 (rootV l)) 25, .row A50 ((wayV l (i : Int)).length) c51 25 32 (by8 (flat8 (wayV l (i : Int)))), .blk p140 (by8 ((wayV l (i : Int)).getD k [])) 25] wD_ := HD_.sub (List.Sublist.cons_cons _ (List.Sublist.cons_cons _ (List.Sublist.cons_cons _ (List.Sublist.cons_cons _ (List.Sublist.cons _ (List.Sublist.cons _ (List.Sublist.cons_cons _ (List.Sublist.slnil))))))))
                        refine GO.call (RefBoth_calls X ((wayV l (i : Int)).getD k []) (by rw [hX]) (by rw [ok32_at (by rw [hwv]; exact ok32_wayH l.length l i (Nat.le_refl _) hok) (by omega)]) wD_) (by kernel_rfl) (fun e_ w215 hR => ?_)
                        obtain ⟨rfl, H217⟩ := hR
                        have H216 : Hp w [] [.blk p3 (by8 g) 25, .row A16 l.length c17 24 32 (by8 (flat8 l)), .blk p41 (by8 (rootV l)) 25, .row A50 ((wayV l (i : Int)).length) c51 25 32 (by8 (flat8 (wayV l (i : Int)))), .blk p89 (by8 X) 24, .blk p99 (by8 Y) 24, .blk p140 (by8 ((wayV l (i : Int)).getD k [])) 25] w215 := HD_.callNil H217
                        have hS218 : Hp w [] [.blk p3 (by8 g) 25, .row A16 l.length c17 24 32 (by8 (flat8 l)), .blk p41 (by8 (rootV l)) 25, .row A50 ((wayV l (i : Int)).length) c51 25 32 (by8 (flat8 (wayV l (i : Int)))), .blk p140 (by8 ((wayV l (i : Int)).getD k [])) 25] w215 := H216.sub (List.Sublist.cons_cons _ (List.Sublist.cons_cons _ (List.Sublist.cons_cons _ (List.Sublist.cons_cons _ (List.Sublist.cons _ (List.Sublist.cons _ (List.Sublist.cons_cons _ (List.Sublist.slnil))))))))
                        refine ⟨_, rfl, hS218, [1, 11, 12, 13, 95, 96, 97, 127, 129], [(1, .int .i64 (j : Int)), (11, pt p89 0), (12, pt p99 0), (13, .int .i64 (p : Int)), (95, .slice A50 ((wayV l (i : Int)).length) c51), (96, .int .i64 (((wayV l (i : Int)).length : Nat) : Int)), (97, .int .i64 (k : Int)), (127, .agg (by8 (bothH X ((wayV l (i : Int)).getD k []))).toArray), (129, .agg (by8 ((wayV l (i : Int)).getD k [])).toArray)], by kernel_rfl, ?_⟩
                        refine GP.perm [1, 4, 0, 2] (by kernel_rfl) rfl ?_
                        rw [← hXd_]
                        exact st176 _ H216
                      · skip
                        have hS219 : Hp w [] [.blk p3 (by8 g) 25, .row A16 l.length c17 24 32 (by8 (flat8 l)), .blk p41 (by8 (rootV l)) 25, .row A50 ((wayV l (i : Int)).length) c51 25 32 (by8 (flat8 (wayV l (i : Int)))), .blk p140 (by8 ((wayV l (i : Int)).getD k [])) 25] wD_ := HD_.sub (List.Sublist.cons_cons _ (List.Sublist.cons_cons _ (List.Sublist.cons_cons _ (List.Sublist.cons_cons _ (List.Sublist.cons _ (List.Sublist.cons _ (List.Sublist.cons_cons _ (List.Sublist.slnil))))))))
                        have hS220 : Hp w [] [.blk p3 (by8 g) 25, .row A16 l.length c17 24 32 (by8 (flat8 l)), .blk p41 (by8 (rootV l)) 25, .row A50 ((wayV l (i : Int)).length) c51 25 32 (by8 (flat8 (wayV l (i : Int)))), .blk p140 (by8 ((wayV l (i : Int)).getD k [])) 25] wD_ := HD_.sub (List.Sublist.cons_cons _ (List.Sublist.cons_cons _ (List.Sublist.cons_cons _ (List.Sublist.cons_cons _ (List.Sublist.cons _ (List.Sublist.cons _ (List.Sublist.cons_cons _ (List.Sublist.slnil))))))))
                        refine GO.made (HD_.ldA (o := 0) (ty := 24) (m := 32) (sub := by8 Y) 5 rfl (by kernel_rfl) (sub_whole (by rw [by8_length, hY])) (by rw [by8_length, hY])) [1, 11, 12, 13, 95, 96, 97, 125, 126, 128, 129] [(1, .int .i64 (j : Int)), (11, pt p89 0), (12, pt p99 0), (13, .int .i64 (p : Int)), (95, .slice A50 ((wayV l (i : Int)).length) c51), (96, .int .i64 (((wayV l (i : Int)).length : Nat) : Int)), (97, .int .i64 (k : Int)), (125, .agg (by8 X).toArray), (126, .agg (by8 ((wayV l (i : Int)).getD k [])).toArray), (128, .agg (by8 Y).toArray), (129, .agg (by8 ((wayV l (i : Int)).getD k [])).toArray)] (by kernel_rfl) (by kernel_rfl) hS220 ?_
                        refine GP.perm [1, 4, 0, 3] (by kernel_rfl) rfl ?_
                        rw [← hXd_]
                        exact st177 _ HD_
                    have st175 : ∀ (wD_ : World), Hp w [] [.blk p3 (by8 g) 25, .row A16 l.length c17 24 32 (by8 (flat8 l)), .blk p41 (by8 (rootV l)) 25, .row A50 ((wayV l (i : Int)).length) c51 25 32 (by8 (flat8 (wayV l (i : Int)))), .blk p89 (by8 X) 24, .blk p99 (by8 Y) 24, .blk p140 (by8 ((wayV l (i : Int)).getD k [])) 25] wD_ → Xd_ [1, 4, 3] [(1, .int .i64 (j : Int)), (11, pt p89 0), (12, pt p99 0), (13, .int .i64 (p : Int)), (95, .slice A50 ((wayV l (i : Int)).length) c51), (96, .int .i64 (((wayV l (i : Int)).length : Nat) : Int)), (97, .int .i64 (k : Int)), (126, .agg (by8 ((wayV l (i : Int)).getD k [])).toArray), (128, .agg (by8 Y).toArray), (129, .agg (by8 ((wayV l (i : Int)).getD k [])).toArray)] wD_ := by
                      intro wD_ HD_
                      rw [hXd_]
                      have hS221 : Hp w [] [.blk p3 (by8 g) 25, .row A16 l.length c17 24 32 (by8 (flat8 l)), .blk p41 (by8 (rootV l)) 25, .row A50 ((wayV l (i : Int)).length) c51 25 32 (by8 (flat8 (wayV l (i : Int)))), .blk p140 (by8 ((wayV l (i : Int)).getD k [])) 25] wD_ := HD_.sub (List.Sublist.cons_cons _ (List.Sublist.cons_cons _ (List.Sublist.cons_cons _ (List.Sublist.cons_cons _ (List.Sublist.cons _ (List.Sublist.cons _ (List.Sublist.cons_cons _ (List.Sublist.slnil))))))))
                      refine GP.all1 0 (by kernel_rfl) ?_
                      · skip
                        have hS222 : Hp w [] [.blk p3 (by8 g) 25, .row A16 l.length c17 24 32 (by8 (flat8 l)), .blk p41 (by8 (rootV l)) 25, .row A50 ((wayV l (i : Int)).length) c51 25 32 (by8 (flat8 (wayV l (i : Int)))), .blk p140 (by8 ((wayV l (i : Int)).getD k [])) 25] wD_ := HD_.sub (List.Sublist.cons_cons _ (List.Sublist.cons_cons _ (List.Sublist.cons_cons _ (List.Sublist.cons_cons _ (List.Sublist.cons _ (List.Sublist.cons _ (List.Sublist.cons_cons _ (List.Sublist.slnil))))))))
                        have hS223 : Hp w [] [.blk p3 (by8 g) 25, .row A16 l.length c17 24 32 (by8 (flat8 l)), .blk p41 (by8 (rootV l)) 25, .row A50 ((wayV l (i : Int)).length) c51 25 32 (by8 (flat8 (wayV l (i : Int)))), .blk p140 (by8 ((wayV l (i : Int)).getD k [])) 25] wD_ := HD_.sub (List.Sublist.cons_cons _ (List.Sublist.cons_cons _ (List.Sublist.cons_cons _ (List.Sublist.cons_cons _ (List.Sublist.cons _ (List.Sublist.cons _ (List.Sublist.cons_cons _ (List.Sublist.slnil))))))))
                        refine GO.made (HD_.ldA (o := 0) (ty := 24) (m := 32) (sub := by8 X) 4 rfl (by kernel_rfl) (sub_whole (by rw [by8_length, hX])) (by rw [by8_length, hX])) [1, 11, 12, 13, 95, 96, 97, 125, 126, 128, 129] [(1, .int .i64 (j : Int)), (11, pt p89 0), (12, pt p99 0), (13, .int .i64 (p : Int)), (95, .slice A50 ((wayV l (i : Int)).length) c51), (96, .int .i64 (((wayV l (i : Int)).length : Nat) : Int)), (97, .int .i64 (k : Int)), (125, .agg (by8 X).toArray), (126, .agg (by8 ((wayV l (i : Int)).getD k [])).toArray), (128, .agg (by8 Y).toArray), (129, .agg (by8 ((wayV l (i : Int)).getD k [])).toArray)] (by kernel_rfl) (by kernel_rfl) hS223 ?_
                        refine GP.perm [1, 4, 0, 3] (by kernel_rfl) rfl ?_
                        rw [← hXd_]
                        exact st177 _ HD_
                    have st173 : ∀ (wD_ : World), Hp w [] [.blk p3 (by8 g) 25, .row A16 l.length c17 24 32 (by8 (flat8 l)), .blk p41 (by8 (rootV l)) 25, .row A50 ((wayV l (i : Int)).length) c51 25 32 (by8 (flat8 (wayV l (i : Int)))), .blk p89 (by8 X) 24, .blk p99 (by8 Y) 24, .blk p140 (by8 ((wayV l (i : Int)).getD k [])) 25] wD_ → Xd_ [1, 4] [(1, .int .i64 (j : Int)), (11, pt p89 0), (12, pt p99 0), (13, .int .i64 (p : Int)), (95, .slice A50 ((wayV l (i : Int)).length) c51), (96, .int .i64 (((wayV l (i : Int)).length : Nat) : Int)), (97, .int .i64 (k : Int)), (126, .agg (by8 ((wayV l (i : Int)).getD k [])).toArray), (129, .agg (by8 ((wayV l (i : Int)).getD k [])).toArray)] wD_ := by
                      intro wD_ HD_
                      rw [hXd_]
                      have hS224 : Hp w [] [.blk p3 (by8 g) 25, .row A16 l.length c17 24 32 (by8 (flat8 l)), .blk p41 (by8 (rootV l)) 25, .row A50 ((wayV l (i : Int)).length) c51 25 32 (by8 (flat8 (wayV l (i : Int)))), .blk p140 (by8 ((wayV l (i : Int)).getD k [])) 25] wD_ := HD_.sub (List.Sublist.cons_cons _ (List.Sublist.cons_cons _ (List.Sublist.cons_cons _ (List.Sublist.cons_cons _ (List.Sublist.cons _ (List.Sublist.cons _ (List.Sublist.cons_cons _ (List.Sublist.slnil))))))))
                      refine GP.all2 0 3 (by kernel_rfl) ?_ ?_
                      · skip
                        have hS225 : Hp w [] [.blk p3 (by8 g) 25, .row A16 l.length c17 24 32 (by8 (flat8 l)), .blk p41 (by8 (rootV l)) 25, .row A50 ((wayV l (i : Int)).length) c51 25 32 (by8 (flat8 (wayV l (i : Int)))), .blk p140 (by8 ((wayV l (i : Int)).getD k [])) 25] wD_ := HD_.sub (List.Sublist.cons_cons _ (List.Sublist.cons_cons _ (List.Sublist.cons_cons _ (List.Sublist.cons_cons _ (List.Sublist.cons _ (List.Sublist.cons _ (List.Sublist.cons_cons _ (List.Sublist.slnil))))))))
                        have hS226 : Hp w [] [.blk p3 (by8 g) 25, .row A16 l.length c17 24 32 (by8 (flat8 l)), .blk p41 (by8 (rootV l)) 25, .row A50 ((wayV l (i : Int)).length) c51 25 32 (by8 (flat8 (wayV l (i : Int)))), .blk p140 (by8 ((wayV l (i : Int)).getD k [])) 25] wD_ := HD_.sub (List.Sublist.cons_cons _ (List.Sublist.cons_cons _ (List.Sublist.cons_cons _ (List.Sublist.cons_cons _ (List.Sublist.cons _ (List.Sublist.cons _ (List.Sublist.cons_cons _ (List.Sublist.slnil))))))))
                        refine GO.made (HD_.ldA (o := 0) (ty := 24) (m := 32) (sub := by8 X) 4 rfl (by kernel_rfl) (sub_whole (by rw [by8_length, hX])) (by rw [by8_length, hX])) [1, 11, 12, 13, 95, 96, 97, 125, 126, 129] [(1, .int .i64 (j : Int)), (11, pt p89 0), (12, pt p99 0), (13, .int .i64 (p : Int)), (95, .slice A50 ((wayV l (i : Int)).length) c51), (96, .int .i64 (((wayV l (i : Int)).length : Nat) : Int)), (97, .int .i64 (k : Int)), (125, .agg (by8 X).toArray), (126, .agg (by8 ((wayV l (i : Int)).getD k [])).toArray), (129, .agg (by8 ((wayV l (i : Int)).getD k [])).toArray)] (by kernel_rfl) (by kernel_rfl) hS226 ?_
                        refine GP.perm [1, 4, 0] (by kernel_rfl) rfl ?_
                        rw [← hXd_]
                        exact st174 _ HD_
                      · skip
                        have hS227 : Hp w [] [.blk p3 (by8 g) 25, .row A16 l.length c17 24 32 (by8 (flat8 l)), .blk p41 (by8 (rootV l)) 25, .row A50 ((wayV l (i : Int)).length) c51 25 32 (by8 (flat8 (wayV l (i : Int)))), .blk p140 (by8 ((wayV l (i : Int)).getD k [])) 25] wD_ := HD_.sub (List.Sublist.cons_cons _ (List.Sublist.cons_cons _ (List.Sublist.cons_cons _ (List.Sublist.cons_cons _ (List.Sublist.cons _ (List.Sublist.cons _ (List.Sublist.cons_cons _ (List.Sublist.slnil))))))))
                        have hS228 : Hp w [] [.blk p3 (by8 g) 25, .row A16 l.length c17 24 32 (by8 (flat8 l)), .blk p41 (by8 (rootV l)) 25, .row A50 ((wayV l (i : Int)).length) c51 25 32 (by8 (flat8 (wayV l (i : Int)))), .blk p140 (by8 ((wayV l (i : Int)).getD k [])) 25] wD_ := HD_.sub (List.Sublist.cons_cons _ (List.Sublist.cons_cons _ (List.Sublist.cons_cons _ (List.Sublist.cons_cons _ (List.Sublist.cons _ (List.Sublist.cons _ (List.Sublist.cons_cons _ (List.Sublist.slnil))))))))
                        refine GO.made (HD_.ldA (o := 0) (ty := 24) (m := 32) (sub := by8 Y) 5 rfl (by kernel_rfl) (sub_whole (by rw [by8_length, hY])) (by rw [by8_length, hY])) [1, 11, 12, 13, 95, 96, 97, 126, 128, 129] [(1, .int .i64 (j : Int)), (11, pt p89 0), (12, pt p99 0), (13, .int .i64 (p : Int)), (95, .slice A50 ((wayV l (i : Int)).length) c51), (96, .int .i64 (((wayV l (i : Int)).length : Nat) : Int)), (97, .int .i64 (k : Int)), (126, .agg (by8 ((wayV l (i : Int)).getD k [])).toArray), (128, .agg (by8 Y).toArray), (129, .agg (by8 ((wayV l (i : Int)).getD k [])).toArray)] (by kernel_rfl) (by kernel_rfl) hS228 ?_
                        refine GP.perm [1, 4, 3] (by kernel_rfl) rfl ?_
                        rw [← hXd_]
                        exact st175 _ HD_
                    exact st173 _ H157
                  · skip
                    have hb156f := eq_of_beq hb156
                    refine GL.run (j := 9) 5 [1, 11, 12, 13, 15, 95, 96, 97, 118] [(1, .int .i64 (j : Int)), (11, pt p89 0), (12, pt p99 0), (13, .int .i64 (p : Int)), (15, pt p140 0), (95, .slice A50 ((wayV l (i : Int)).length) c51), (96, .int .i64 (((wayV l (i : Int)).length : Nat) : Int)), (97, .int .i64 (k : Int)), (118, .bool ((j : Int) == (IntKind.i64.wrap ((p : Int) - 1))))] (by kernel_rfl) rfl ?_
                    have e229 : (IntKind.i64.wrap ((p : Int) - 1)) = (((p - 1) : Nat) : Int) := by rw [in_i64 (by omega)]; omega
                    refine GL.eq (M' := [(1, .int .i64 (j : Int)), (11, pt p89 0), (12, pt p99 0), (13, .int .i64 (p : Int)), (15, pt p140 0), (95, .slice A50 ((wayV l (i : Int)).length) c51), (96, .int .i64 (((wayV l (i : Int)).length : Nat) : Int)), (97, .int .i64 (k : Int)), (118, .bool ((j : Int) == (((p - 1) : Nat) : Int)))]) (by rw [e229]) ?_
                    clear e229
                    refine GL.k rfl hK154 (fun _ _ h => h) ?_
                    have hb230 : ((j : Int) == (((p - 1) : Nat) : Int)) = false := beq_false_of_ne (fun h => by unfold aloneB at hal; have := of_decide_eq_false hal; omega)
                    rw [hb230]
                    refine G.no rfl ?_
                    refine G.heldP (Hp w [] [.blk p3 (by8 g) 25, .row A16 l.length c17 24 32 (by8 (flat8 l)), .blk p41 (by8 (rootV l)) 25, .row A50 ((wayV l (i : Int)).length) c51 25 32 (by8 (flat8 (wayV l (i : Int)))), .blk p140 (by8 ((wayV l (i : Int)).getD k [])) 25]) (by kernel_rfl) (by kernel_rfl) (fun c_ a_ d_ v_ w_ h_ => hPan c_ a_ d_ v_ w_ h_) ?_
                    have H231 := H146.drew
                    generalize ({ w144 with drawn := w144.drawn + 1 } : World) = w232 at H231 ⊢
                    have hS233 : Hp w [] [.blk p3 (by8 g) 25, .row A16 l.length c17 24 32 (by8 (flat8 l)), .blk p41 (by8 (rootV l)) 25, .row A50 ((wayV l (i : Int)).length) c51 25 32 (by8 (flat8 (wayV l (i : Int)))), .blk p140 (by8 ((wayV l (i : Int)).getD k [])) 25] w232 := H231.sub (List.Sublist.cons_cons _ (List.Sublist.cons_cons _ (List.Sublist.cons_cons _ (List.Sublist.cons_cons _ (List.Sublist.cons _ (List.Sublist.cons _ (List.Sublist.cons_cons _ (List.Sublist.slnil))))))))
                    refine GP.sem 1 (fun w_ H_ => H_.ldA (o := 0) (ty := 25) (m := 32) (sub := by8 ((wayV l (i : Int)).getD k [])) 4 rfl (by kernel_rfl) (sub_whole (by rw [by8_length, ok32_at (by rw [hwv]; exact ok32_wayH l.length l i (Nat.le_refl _) hok) (by omega)])) (by rw [by8_length, ok32_at (by rw [hwv]; exact ok32_wayH l.length l i (Nat.le_refl _) hok) (by omega)])) [1, 11, 12, 13, 15, 95, 96, 97, 126] [(1, .int .i64 (j : Int)), (11, pt p89 0), (12, pt p99 0), (13, .int .i64 (p : Int)), (15, pt p140 0), (95, .slice A50 ((wayV l (i : Int)).length) c51), (96, .int .i64 (((wayV l (i : Int)).length : Nat) : Int)), (97, .int .i64 (k : Int)), (126, .agg (by8 ((wayV l (i : Int)).getD k [])).toArray)] (by kernel_rfl) (by kernel_rfl) (by kernel_rfl) hS233 ?_
                    refine GP.sem 4 (fun w_ H_ => H_.ldA (o := 0) (ty := 25) (m := 32) (sub := by8 ((wayV l (i : Int)).getD k [])) 4 rfl (by kernel_rfl) (sub_whole (by rw [by8_length, ok32_at (by rw [hwv]; exact ok32_wayH l.length l i (Nat.le_refl _) hok) (by omega)])) (by rw [by8_length, ok32_at (by rw [hwv]; exact ok32_wayH l.length l i (Nat.le_refl _) hok) (by omega)])) [1, 11, 12, 13, 95, 96, 97, 126, 129] [(1, .int .i64 (j : Int)), (11, pt p89 0), (12, pt p99 0), (13, .int .i64 (p : Int)), (95, .slice A50 ((wayV l (i : Int)).length) c51), (96, .int .i64 (((wayV l (i : Int)).length : Nat) : Int)), (97, .int .i64 (k : Int)), (126, .agg (by8 ((wayV l (i : Int)).getD k [])).toArray), (129, .agg (by8 ((wayV l (i : Int)).getD k [])).toArray)] (by kernel_rfl) (by kernel_rfl) (by kernel_rfl) hS233 ?_
                    refine GP.named fun Xd_ hXd_ => ?_
                    have st252 : ∀ (wD_ : World), Hp w [] [.blk p3 (by8 g) 25, .row A16 l.length c17 24 32 (by8 (flat8 l)), .blk p41 (by8 (rootV l)) 25, .row A50 ((wayV l (i : Int)).length) c51 25 32 (by8 (flat8 (wayV l (i : Int)))), .blk p89 (by8 X) 24, .blk p99 (by8 Y) 24, .blk p140 (by8 ((wayV l (i : Int)).getD k [])) 25] wD_ → Xd_ [1, 4, 0, 2, 3] [(1, .int .i64 (j : Int)), (11, pt p89 0), (12, pt p99 0), (13, .int .i64 (p : Int)), (95, .slice A50 ((wayV l (i : Int)).length) c51), (96, .int .i64 (((wayV l (i : Int)).length : Nat) : Int)), (97, .int .i64 (k : Int)), (127, .agg (by8 (bothH X ((wayV l (i : Int)).getD k []))).toArray), (128, .agg (by8 Y).toArray), (129, .agg (by8 ((wayV l (i : Int)).getD k [])).toArray)] wD_ := by
                      intro wD_ HD_
                      rw [hXd_]
                      have hS253 : Hp w [] [.blk p3 (by8 g) 25, .row A16 l.length c17 24 32 (by8 (flat8 l)), .blk p41 (by8 (rootV l)) 25, .row A50 ((wayV l (i : Int)).length) c51 25 32 (by8 (flat8 (wayV l (i : Int)))), .blk p140 (by8 ((wayV l (i : Int)).getD k [])) 25] wD_ := HD_.sub (List.Sublist.cons_cons _ (List.Sublist.cons_cons _ (List.Sublist.cons_cons _ (List.Sublist.cons_cons _ (List.Sublist.cons _ (List.Sublist.cons _ (List.Sublist.cons_cons _ (List.Sublist.slnil))))))))
                      refine GP.call 5 (RefBoth_calls Y ((wayV l (i : Int)).getD k []) (by rw [hY]) (by rw [ok32_at (by rw [hwv]; exact ok32_wayH l.length l i (Nat.le_refl _) hok) (by omega)]) wD_) (by kernel_rfl) (by kernel_rfl) (fun e_ w254 hR => ?_)
                      obtain ⟨rfl, H256⟩ := hR
                      have H255 : Hp w [] [.blk p3 (by8 g) 25, .row A16 l.length c17 24 32 (by8 (flat8 l)), .blk p41 (by8 (rootV l)) 25, .row A50 ((wayV l (i : Int)).length) c51 25 32 (by8 (flat8 (wayV l (i : Int)))), .blk p89 (by8 X) 24, .blk p99 (by8 Y) 24, .blk p140 (by8 ((wayV l (i : Int)).getD k [])) 25] w254 := HD_.callNil H256
                      have hS257 : Hp w [] [.blk p3 (by8 g) 25, .row A16 l.length c17 24 32 (by8 (flat8 l)), .blk p41 (by8 (rootV l)) 25, .row A50 ((wayV l (i : Int)).length) c51 25 32 (by8 (flat8 (wayV l (i : Int)))), .blk p140 (by8 ((wayV l (i : Int)).getD k [])) 25] w254 := H255.sub (List.Sublist.cons_cons _ (List.Sublist.cons_cons _ (List.Sublist.cons_cons _ (List.Sublist.cons_cons _ (List.Sublist.cons _ (List.Sublist.cons _ (List.Sublist.cons_cons _ (List.Sublist.slnil))))))))
                      refine ⟨_, rfl, hS257, [1, 11, 12, 13, 95, 96, 97, 127, 130], [(1, .int .i64 (j : Int)), (11, pt p89 0), (12, pt p99 0), (13, .int .i64 (p : Int)), (95, .slice A50 ((wayV l (i : Int)).length) c51), (96, .int .i64 (((wayV l (i : Int)).length : Nat) : Int)), (97, .int .i64 (k : Int)), (127, .agg (by8 (bothH X ((wayV l (i : Int)).getD k []))).toArray), (130, .agg (by8 (bothH Y ((wayV l (i : Int)).getD k []))).toArray)], by kernel_rfl, ?_⟩
                      obtain ⟨w258, r259, H260⟩ := H255.stA (P := Try.prog) (o := 0) (vs := by8 (bothH X ((wayV l (i : Int)).getD k []))) (ty := 24) (m := 32) 4 rfl (by kernel_rfl) (by rw [by8_length, bothH_length]) (Nat.le_of_eq (by rw [Nat.zero_add]; exact ((show (by8 X).length = 32 from by rw [by8_length, hX])).symm)) (by8_one _)
                      rw [st_whole (by rw [by8_length, hX])] at H260
                      have H260 : Hp w [] [.blk p3 (by8 g) 25, .row A16 l.length c17 24 32 (by8 (flat8 l)), .blk p41 (by8 (rootV l)) 25, .row A50 ((wayV l (i : Int)).length) c51 25 32 (by8 (flat8 (wayV l (i : Int)))), .blk p89 (by8 (bothH X ((wayV l (i : Int)).getD k []))) 24, .blk p99 (by8 Y) 24, .blk p140 (by8 ((wayV l (i : Int)).getD k [])) 25] w258 := H260
                      have hS261 : Hp w [] [.blk p3 (by8 g) 25, .row A16 l.length c17 24 32 (by8 (flat8 l)), .blk p41 (by8 (rootV l)) 25, .row A50 ((wayV l (i : Int)).length) c51 25 32 (by8 (flat8 (wayV l (i : Int)))), .blk p140 (by8 ((wayV l (i : Int)).getD k [])) 25] w258 := H260.sub (List.Sublist.cons_cons _ (List.Sublist.cons_cons _ (List.Sublist.cons_cons _ (List.Sublist.cons_cons _ (List.Sublist.cons _ (List.Sublist.cons _ (List.Sublist.cons_cons _ (List.Sublist.slnil))))))))
                      refine GP.semU 6 r259 [1, 11, 12, 13, 95, 96, 97, 130] [(1, .int .i64 (j : Int)), (11, pt p89 0), (12, pt p99 0), (13, .int .i64 (p : Int)), (95, .slice A50 ((wayV l (i : Int)).length) c51), (96, .int .i64 (((wayV l (i : Int)).length : Nat) : Int)), (97, .int .i64 (k : Int)), (130, .agg (by8 (bothH Y ((wayV l (i : Int)).getD k []))).toArray)] (by kernel_rfl) rfl rfl (by kernel_rfl) hS261 ?_
                      obtain ⟨w262, r263, H264⟩ := H260.stA (P := Try.prog) (o := 0) (vs := by8 (bothH Y ((wayV l (i : Int)).getD k []))) (ty := 24) (m := 32) 5 rfl (by kernel_rfl) (by rw [by8_length, bothH_length]) (Nat.le_of_eq (by rw [Nat.zero_add]; exact ((show (by8 Y).length = 32 from by rw [by8_length, hY])).symm)) (by8_one _)
                      rw [st_whole (by rw [by8_length, hY])] at H264
                      have H264 : Hp w [] [.blk p3 (by8 g) 25, .row A16 l.length c17 24 32 (by8 (flat8 l)), .blk p41 (by8 (rootV l)) 25, .row A50 ((wayV l (i : Int)).length) c51 25 32 (by8 (flat8 (wayV l (i : Int)))), .blk p89 (by8 (bothH X ((wayV l (i : Int)).getD k []))) 24, .blk p99 (by8 (bothH Y ((wayV l (i : Int)).getD k []))) 24, .blk p140 (by8 ((wayV l (i : Int)).getD k [])) 25] w262 := H264
                      have hS265 : Hp w [] [.blk p3 (by8 g) 25, .row A16 l.length c17 24 32 (by8 (flat8 l)), .blk p41 (by8 (rootV l)) 25, .row A50 ((wayV l (i : Int)).length) c51 25 32 (by8 (flat8 (wayV l (i : Int)))), .blk p140 (by8 ((wayV l (i : Int)).getD k [])) 25] w262 := H264.sub (List.Sublist.cons_cons _ (List.Sublist.cons_cons _ (List.Sublist.cons_cons _ (List.Sublist.cons_cons _ (List.Sublist.cons _ (List.Sublist.cons _ (List.Sublist.cons_cons _ (List.Sublist.slnil))))))))
                      refine GP.semU 7 r263 [1, 11, 12, 13, 95, 96, 97] [(1, .int .i64 (j : Int)), (11, pt p89 0), (12, pt p99 0), (13, .int .i64 (p : Int)), (95, .slice A50 ((wayV l (i : Int)).length) c51), (96, .int .i64 (((wayV l (i : Int)).length : Nat) : Int)), (97, .int .i64 (k : Int))] (by kernel_rfl) rfl rfl (by kernel_rfl) hS265 ?_
                      refine GP.k (by kernel_rfl) hK148 (fun _ _ h => h) ?_
                      refine G.seqK fun K266 hK267 => ?_
                      refine G.region ?_
                      refine GL.run (j := 7) 7 [1, 11, 12, 13, 95, 96, 97] [(1, .int .i64 (IntKind.i64.wrap (Int.tdiv (j : Int) 2))), (11, pt p89 0), (12, pt p99 0), (13, .int .i64 (IntKind.i64.wrap (Int.tdiv (IntKind.i64.wrap ((p : Int) + 1)) 2))), (95, .slice A50 ((wayV l (i : Int)).length) c51), (96, .int .i64 (((wayV l (i : Int)).length : Nat) : Int)), (97, .int .i64 (k : Int))] (by kernel_rfl) rfl ?_
                      have e268 : (IntKind.i64.wrap (Int.tdiv (j : Int) 2)) = (((j / 2) : Nat) : Int) := i_quo (a := j) 2 (by omega)
                      have e269 : (IntKind.i64.wrap ((p : Int) + 1)) = ((p + 1 : Nat) : Int) := by rw [in_i64 (by omega)]; omega
                      have e270 : (IntKind.i64.wrap (Int.tdiv ((p + 1 : Nat) : Int) 2)) = ((((p + 1) / 2) : Nat) : Int) := i_quo (a := (p + 1)) 2 (by omega)
                      refine GL.eq (M' := [(1, .int .i64 (((j / 2) : Nat) : Int)), (11, pt p89 0), (12, pt p99 0), (13, .int .i64 ((((p + 1) / 2) : Nat) : Int)), (95, .slice A50 ((wayV l (i : Int)).length) c51), (96, .int .i64 (((wayV l (i : Int)).length : Nat) : Int)), (97, .int .i64 (k : Int))]) (by rw [e268, e269, e270]) ?_
                      clear e268 e269 e270
                      refine GL.k rfl hK267 (fun _ _ h => h) ?_
                      refine G.seqK fun K271 hK272 => ?_
                      refine G.region ?_
                      refine GL.sem (j := 1) (H264.ldA (o := 0) (ty := 24) (m := 32) (sub := by8 (bothH X ((wayV l (i : Int)).getD k []))) 4 rfl (by kernel_rfl) (sub_whole (by rw [by8_length, bothH_length])) (by rw [by8_length, bothH_length])) [1, 11, 12, 13, 95, 96, 97, 136] [(1, .int .i64 (((j / 2) : Nat) : Int)), (11, pt p89 0), (12, pt p99 0), (13, .int .i64 ((((p + 1) / 2) : Nat) : Int)), (95, .slice A50 ((wayV l (i : Int)).length) c51), (96, .int .i64 (((wayV l (i : Int)).length : Nat) : Int)), (97, .int .i64 (k : Int)), (136, .agg (by8 (bothH X ((wayV l (i : Int)).getD k []))).toArray)] (by kernel_rfl) (by kernel_rfl) rfl ?_
                      refine GL.sem (j := 2) (H264.ldA (o := 0) (ty := 24) (m := 32) (sub := by8 (bothH Y ((wayV l (i : Int)).getD k []))) 5 rfl (by kernel_rfl) (sub_whole (by rw [by8_length, bothH_length])) (by rw [by8_length, bothH_length])) [1, 11, 12, 13, 95, 96, 97, 136, 137] [(1, .int .i64 (((j / 2) : Nat) : Int)), (11, pt p89 0), (12, pt p99 0), (13, .int .i64 ((((p + 1) / 2) : Nat) : Int)), (95, .slice A50 ((wayV l (i : Int)).length) c51), (96, .int .i64 (((wayV l (i : Int)).length : Nat) : Int)), (97, .int .i64 (k : Int)), (136, .agg (by8 (bothH X ((wayV l (i : Int)).getD k []))).toArray), (137, .agg (by8 (bothH Y ((wayV l (i : Int)).getD k []))).toArray)] (by kernel_rfl) (by kernel_rfl) rfl ?_
                      refine GL.sem (j := 3) (run_by8_eql (P := Try.prog) (t := 24) (n := 32) (x := (.tmp 136)) (y := (.tmp 137)) (by kernel_rfl) (bothH X ((wayV l (i : Int)).getD k [])) (bothH Y ((wayV l (i : Int)).getD k [])) (by rw [bothH_length]) (by rw [bothH_length]) _) [1, 11, 12, 13, 95, 96, 97, 138] [(1, .int .i64 (((j / 2) : Nat) : Int)), (11, pt p89 0), (12, pt p99 0), (13, .int .i64 ((((p + 1) / 2) : Nat) : Int)), (95, .slice A50 ((wayV l (i : Int)).length) c51), (96, .int .i64 (((wayV l (i : Int)).length : Nat) : Int)), (97, .int .i64 (k : Int)), (138, .bool (decide ((bothH X ((wayV l (i : Int)).getD k [])) = (bothH Y ((wayV l (i : Int)).getD k [])))))] (by kernel_rfl) (by kernel_rfl) rfl ?_
                      refine GL.k rfl hK272 (fun _ _ h => h) ?_
                      cases hb273 : (decide ((bothH X ((wayV l (i : Int)).getD k [])) = (bothH Y ((wayV l (i : Int)).getD k []))))
                      · skip
                        have hb273f := of_decide_eq_false hb273
                        have hne1 := of_decide_eq_false hb273
                        refine G.no rfl ?_
                        refine G.skipK hK137 (fun _ _ h => h) ?_
                        refine G.region ?_
                        refine GL.run (j := 2) 2 [1, 11, 12, 13, 95, 96, 97] [(1, .int .i64 (((j / 2) : Nat) : Int)), (11, pt p89 0), (12, pt p99 0), (13, .int .i64 ((((p + 1) / 2) : Nat) : Int)), (95, .slice A50 ((wayV l (i : Int)).length) c51), (96, .int .i64 (((wayV l (i : Int)).length : Nat) : Int)), (97, .int .i64 (IntKind.i64.wrap ((k : Int) + 1)))] (by kernel_rfl) rfl ?_
                        have e274 : (IntKind.i64.wrap ((k : Int) + 1)) = ((k + 1 : Nat) : Int) := by rw [in_i64 (by omega)]; omega
                        refine GL.eq (M' := [(1, .int .i64 (((j / 2) : Nat) : Int)), (11, pt p89 0), (12, pt p99 0), (13, .int .i64 ((((p + 1) / 2) : Nat) : Int)), (95, .slice A50 ((wayV l (i : Int)).length) c51), (96, .int .i64 (((wayV l (i : Int)).length : Nat) : Int)), (97, .int .i64 ((k + 1 : Nat) : Int))]) (by rw [e274]) ?_
                        clear e274
                        have H275 : Hp w [] [.blk p3 (by8 g) 25, .row A16 l.length c17 24 32 (by8 (flat8 l)), .blk p41 (by8 (rootV l)) 25, .row A50 ((wayV l (i : Int)).length) c51 25 32 (by8 (flat8 (wayV l (i : Int)))), .blk p89 (by8 (bothH X ((wayV l (i : Int)).getD k []))) 24, .blk p99 (by8 (bothH Y ((wayV l (i : Int)).getD k []))) 24] w262 := H264.sub (List.Sublist.cons_cons _ (List.Sublist.cons_cons _ (List.Sublist.cons_cons _ (List.Sublist.cons_cons _ (List.Sublist.cons_cons _ (List.Sublist.cons_cons _ (List.Sublist.cons _ (List.Sublist.slnil))))))))
                        refine GL.fit (ts := [1, 11, 12, 13, 95, 96, 97]) (M' := [(1, .int .i64 (((j / 2) : Nat) : Int)), (11, pt p89 0), (12, pt p99 0), (13, .int .i64 ((((p + 1) / 2) : Nat) : Int)), (95, .slice A50 ((wayV l (i : Int)).length) c51), (96, .int .i64 (((wayV l (i : Int)).length : Nat) : Int)), (97, .int .i64 ((k + 1 : Nat) : Int))]) (by kernel_rfl) ?_
                        refine GL.eq (M' := [(1, .int .i64 (((j / 2) : Nat) : Int)), (11, pt p89 0), (12, pt p99 0), (13, .int .i64 ((((p + 1) / 2) : Nat) : Int)), (95, .slice A50 ((wayV l (i : Int)).length) c51), (96, .int .i64 (((wayV l (i : Int)).length : Nat) : Int)), (97, .int .i64 (((k + 1) : Nat) : Int))]) (by rfl) ?_
                        exact GL.again ⟨(k + 1), (bothH X ((wayV l (i : Int)).getD k [])), (bothH Y ((wayV l (i : Int)).getD k [])), (j / 2), ((p + 1) / 2)⟩ [1, 11, 12, 13, 95, 96, 97] rfl (by kernel_rfl) (by show (wayV l (i : Int)).length - (k + 1) < (wayV l (i : Int)).length - k; omega) ⟨⟨by have h_ := hcx2; unfold turnH at h_; rw [if_neg (by omega)] at h_; exact h_, by have h_ := hcy2; unfold turnH at h_; rw [if_neg (by omega)] at h_; exact h_, hne1, bothH_length _ _, bothH_length _ _, by omega, by omega, by omega⟩, H275⟩
                      · skip
                        have hb273f := of_decide_eq_true hb273
                        refine G.yes rfl ?_
                        refine G.seqK fun K276 hK277 => ?_
                        refine G.region ?_
                        refine GL.run (j := 1) 1 [6] [(6, .bool true)] (by kernel_rfl) rfl ?_
                        refine GL.k rfl hK277 (fun _ _ h => h) ?_
                        refine G.ret ?_
                        intro F_ hF_ hM_
                        refine hRet _ _ (bodyPost_1 rfl (RV.tmp rfl) ?_ F_ hF_ hM_)
                        exact ⟨rfl, H264.sub (List.nil_sublist _)⟩
                    have st250 : ∀ (wD_ : World), Hp w [] [.blk p3 (by8 g) 25, .row A16 l.length c17 24 32 (by8 (flat8 l)), .blk p41 (by8 (rootV l)) 25, .row A50 ((wayV l (i : Int)).length) c51 25 32 (by8 (flat8 (wayV l (i : Int)))), .blk p89 (by8 X) 24, .blk p99 (by8 Y) 24, .blk p140 (by8 ((wayV l (i : Int)).getD k [])) 25] wD_ → Xd_ [1, 4, 0, 2] [(1, .int .i64 (j : Int)), (11, pt p89 0), (12, pt p99 0), (13, .int .i64 (p : Int)), (95, .slice A50 ((wayV l (i : Int)).length) c51), (96, .int .i64 (((wayV l (i : Int)).length : Nat) : Int)), (97, .int .i64 (k : Int)), (127, .agg (by8 (bothH X ((wayV l (i : Int)).getD k []))).toArray), (129, .agg (by8 ((wayV l (i : Int)).getD k [])).toArray)] wD_ := by
                      intro wD_ HD_
                      rw [hXd_]
                      have hS278 : Hp w [] [.blk p3 (by8 g) 25, .row A16 l.length c17 24 32 (by8 (flat8 l)), .blk p41 (by8 (rootV l)) 25, .row A50 ((wayV l (i : Int)).length) c51 25 32 (by8 (flat8 (wayV l (i : Int)))), .blk p140 (by8 ((wayV l (i : Int)).getD k [])) 25] wD_ := HD_.sub (List.Sublist.cons_cons _ (List.Sublist.cons_cons _ (List.Sublist.cons_cons _ (List.Sublist.cons_cons _ (List.Sublist.cons _ (List.Sublist.cons _ (List.Sublist.cons_cons _ (List.Sublist.slnil))))))))
                      refine GP.all1 3 (by kernel_rfl) ?_
                      · skip
                        have hS279 : Hp w [] [.blk p3 (by8 g) 25, .row A16 l.length c17 24 32 (by8 (flat8 l)), .blk p41 (by8 (rootV l)) 25, .row A50 ((wayV l (i : Int)).length) c51 25 32 (by8 (flat8 (wayV l (i : Int)))), .blk p140 (by8 ((wayV l (i : Int)).getD k [])) 25] wD_ := HD_.sub (List.Sublist.cons_cons _ (List.Sublist.cons_cons _ (List.Sublist.cons_cons _ (List.Sublist.cons_cons _ (List.Sublist.cons _ (List.Sublist.cons _ (List.Sublist.cons_cons _ (List.Sublist.slnil))))))))
                        have hS280 : Hp w [] [.blk p3 (by8 g) 25, .row A16 l.length c17 24 32 (by8 (flat8 l)), .blk p41 (by8 (rootV l)) 25, .row A50 ((wayV l (i : Int)).length) c51 25 32 (by8 (flat8 (wayV l (i : Int)))), .blk p140 (by8 ((wayV l (i : Int)).getD k [])) 25] wD_ := HD_.sub (List.Sublist.cons_cons _ (List.Sublist.cons_cons _ (List.Sublist.cons_cons _ (List.Sublist.cons_cons _ (List.Sublist.cons _ (List.Sublist.cons _ (List.Sublist.cons_cons _ (List.Sublist.slnil))))))))
                        refine GO.made (HD_.ldA (o := 0) (ty := 24) (m := 32) (sub := by8 Y) 5 rfl (by kernel_rfl) (sub_whole (by rw [by8_length, hY])) (by rw [by8_length, hY])) [1, 11, 12, 13, 95, 96, 97, 127, 128, 129] [(1, .int .i64 (j : Int)), (11, pt p89 0), (12, pt p99 0), (13, .int .i64 (p : Int)), (95, .slice A50 ((wayV l (i : Int)).length) c51), (96, .int .i64 (((wayV l (i : Int)).length : Nat) : Int)), (97, .int .i64 (k : Int)), (127, .agg (by8 (bothH X ((wayV l (i : Int)).getD k []))).toArray), (128, .agg (by8 Y).toArray), (129, .agg (by8 ((wayV l (i : Int)).getD k [])).toArray)] (by kernel_rfl) (by kernel_rfl) hS280 ?_
                        refine GP.perm [1, 4, 0, 2, 3] (by kernel_rfl) rfl ?_
                        rw [← hXd_]
                        exact st252 _ HD_
                    have st251 : ∀ (wD_ : World), Hp w [] [.blk p3 (by8 g) 25, .row A16 l.length c17 24 32 (by8 (flat8 l)), .blk p41 (by8 (rootV l)) 25, .row A50 ((wayV l (i : Int)).length) c51 25 32 (by8 (flat8 (wayV l (i : Int)))), .blk p89 (by8 X) 24, .blk p99 (by8 Y) 24, .blk p140 (by8 ((wayV l (i : Int)).getD k [])) 25] wD_ → Xd_ [1, 4, 0, 3] [(1, .int .i64 (j : Int)), (11, pt p89 0), (12, pt p99 0), (13, .int .i64 (p : Int)), (95, .slice A50 ((wayV l (i : Int)).length) c51), (96, .int .i64 (((wayV l (i : Int)).length : Nat) : Int)), (97, .int .i64 (k : Int)), (125, .agg (by8 X).toArray), (126, .agg (by8 ((wayV l (i : Int)).getD k [])).toArray), (128, .agg (by8 Y).toArray), (129, .agg (by8 ((wayV l (i : Int)).getD k [])).toArray)] wD_ := by
                      intro wD_ HD_
                      rw [hXd_]
                      have hS281 : Hp w [] [.blk p3 (by8 g) 25, .row A16 l.length c17 24 32 (by8 (flat8 l)), .blk p41 (by8 (rootV l)) 25, .row A50 ((wayV l (i : Int)).length) c51 25 32 (by8 (flat8 (wayV l (i : Int)))), .blk p140 (by8 ((wayV l (i : Int)).getD k [])) 25] wD_ := HD_.sub (List.Sublist.cons_cons _ (List.Sublist.cons_cons _ (List.Sublist.cons_cons _ (List.Sublist.cons_cons _ (List.Sublist.cons _ (List.Sublist.cons _ (List.Sublist.cons_cons _ (List.Sublist.slnil))))))))
                      refine GP.all1 2 (by kernel_rfl) ?_
                      · skip
                        have hS282 : Hp w [] [.blk p3 (by8 g) 25, .row A16 l.length c17 24 32 (by8 (flat8 l)), .blk p41 (by8 (rootV l)) 25, .row A50 ((wayV l (i : Int)).length) c51 25 32 (by8 (flat8 (wayV l (i : Int)))), .blk p140 (by8 ((wayV l (i : Int)).getD k [])) 25] wD_ := HD_.sub (List.Sublist.cons_cons _ (List.Sublist.cons_cons _ (List.Sublist.cons_cons _ (List.Sublist.cons_cons _ (List.Sublist.cons _ (List.Sublist.cons _ (List.Sublist.cons_cons _ (List.Sublist.slnil))))))))
                        refine GO.call (RefBoth_calls X ((wayV l (i : Int)).getD k []) (by rw [hX]) (by rw [ok32_at (by rw [hwv]; exact ok32_wayH l.length l i (Nat.le_refl _) hok) (by omega)]) wD_) (by kernel_rfl) (fun e_ w283 hR => ?_)
                        obtain ⟨rfl, H285⟩ := hR
                        have H284 : Hp w [] [.blk p3 (by8 g) 25, .row A16 l.length c17 24 32 (by8 (flat8 l)), .blk p41 (by8 (rootV l)) 25, .row A50 ((wayV l (i : Int)).length) c51 25 32 (by8 (flat8 (wayV l (i : Int)))), .blk p89 (by8 X) 24, .blk p99 (by8 Y) 24, .blk p140 (by8 ((wayV l (i : Int)).getD k [])) 25] w283 := HD_.callNil H285
                        have hS286 : Hp w [] [.blk p3 (by8 g) 25, .row A16 l.length c17 24 32 (by8 (flat8 l)), .blk p41 (by8 (rootV l)) 25, .row A50 ((wayV l (i : Int)).length) c51 25 32 (by8 (flat8 (wayV l (i : Int)))), .blk p140 (by8 ((wayV l (i : Int)).getD k [])) 25] w283 := H284.sub (List.Sublist.cons_cons _ (List.Sublist.cons_cons _ (List.Sublist.cons_cons _ (List.Sublist.cons_cons _ (List.Sublist.cons _ (List.Sublist.cons _ (List.Sublist.cons_cons _ (List.Sublist.slnil))))))))
                        refine ⟨_, rfl, hS286, [1, 11, 12, 13, 95, 96, 97, 127, 128, 129], [(1, .int .i64 (j : Int)), (11, pt p89 0), (12, pt p99 0), (13, .int .i64 (p : Int)), (95, .slice A50 ((wayV l (i : Int)).length) c51), (96, .int .i64 (((wayV l (i : Int)).length : Nat) : Int)), (97, .int .i64 (k : Int)), (127, .agg (by8 (bothH X ((wayV l (i : Int)).getD k []))).toArray), (128, .agg (by8 Y).toArray), (129, .agg (by8 ((wayV l (i : Int)).getD k [])).toArray)], by kernel_rfl, ?_⟩
                        refine GP.perm [1, 4, 0, 2, 3] (by kernel_rfl) rfl ?_
                        rw [← hXd_]
                        exact st252 _ H284
                    have st248 : ∀ (wD_ : World), Hp w [] [.blk p3 (by8 g) 25, .row A16 l.length c17 24 32 (by8 (flat8 l)), .blk p41 (by8 (rootV l)) 25, .row A50 ((wayV l (i : Int)).length) c51 25 32 (by8 (flat8 (wayV l (i : Int)))), .blk p89 (by8 X) 24, .blk p99 (by8 Y) 24, .blk p140 (by8 ((wayV l (i : Int)).getD k [])) 25] wD_ → Xd_ [1, 4, 0] [(1, .int .i64 (j : Int)), (11, pt p89 0), (12, pt p99 0), (13, .int .i64 (p : Int)), (95, .slice A50 ((wayV l (i : Int)).length) c51), (96, .int .i64 (((wayV l (i : Int)).length : Nat) : Int)), (97, .int .i64 (k : Int)), (125, .agg (by8 X).toArray), (126, .agg (by8 ((wayV l (i : Int)).getD k [])).toArray), (129, .agg (by8 ((wayV l (i : Int)).getD k [])).toArray)] wD_ := by
                      intro wD_ HD_
                      rw [hXd_]
                      have hS287 : Hp w [] [.blk p3 (by8 g) 25, .row A16 l.length c17 24 32 (by8 (flat8 l)), .blk p41 (by8 (rootV l)) 25, .row A50 ((wayV l (i : Int)).length) c51 25 32 (by8 (flat8 (wayV l (i : Int)))), .blk p140 (by8 ((wayV l (i : Int)).getD k [])) 25] wD_ := HD_.sub (List.Sublist.cons_cons _ (List.Sublist.cons_cons _ (List.Sublist.cons_cons _ (List.Sublist.cons_cons _ (List.Sublist.cons _ (List.Sublist.cons _ (List.Sublist.cons_cons _ (List.Sublist.slnil))))))))
                      refine GP.all2 2 3 (by kernel_rfl) ?_ ?_
                      · skip
                        have hS288 : Hp w [] [.blk p3 (by8 g) 25, .row A16 l.length c17 24 32 (by8 (flat8 l)), .blk p41 (by8 (rootV l)) 25, .row A50 ((wayV l (i : Int)).length) c51 25 32 (by8 (flat8 (wayV l (i : Int)))), .blk p140 (by8 ((wayV l (i : Int)).getD k [])) 25] wD_ := HD_.sub (List.Sublist.cons_cons _ (List.Sublist.cons_cons _ (List.Sublist.cons_cons _ (List.Sublist.cons_cons _ (List.Sublist.cons _ (List.Sublist.cons _ (List.Sublist.cons_cons _ (List.Sublist.slnil))))))))
                        refine GO.call (RefBoth_calls X ((wayV l (i : Int)).getD k []) (by rw [hX]) (by rw [ok32_at (by rw [hwv]; exact ok32_wayH l.length l i (Nat.le_refl _) hok) (by omega)]) wD_) (by kernel_rfl) (fun e_ w289 hR => ?_)
                        obtain ⟨rfl, H291⟩ := hR
                        have H290 : Hp w [] [.blk p3 (by8 g) 25, .row A16 l.length c17 24 32 (by8 (flat8 l)), .blk p41 (by8 (rootV l)) 25, .row A50 ((wayV l (i : Int)).length) c51 25 32 (by8 (flat8 (wayV l (i : Int)))), .blk p89 (by8 X) 24, .blk p99 (by8 Y) 24, .blk p140 (by8 ((wayV l (i : Int)).getD k [])) 25] w289 := HD_.callNil H291
                        have hS292 : Hp w [] [.blk p3 (by8 g) 25, .row A16 l.length c17 24 32 (by8 (flat8 l)), .blk p41 (by8 (rootV l)) 25, .row A50 ((wayV l (i : Int)).length) c51 25 32 (by8 (flat8 (wayV l (i : Int)))), .blk p140 (by8 ((wayV l (i : Int)).getD k [])) 25] w289 := H290.sub (List.Sublist.cons_cons _ (List.Sublist.cons_cons _ (List.Sublist.cons_cons _ (List.Sublist.cons_cons _ (List.Sublist.cons _ (List.Sublist.cons _ (List.Sublist.cons_cons _ (List.Sublist.slnil))))))))
                        refine ⟨_, rfl, hS292, [1, 11, 12, 13, 95, 96, 97, 127, 129], [(1, .int .i64 (j : Int)), (11, pt p89 0), (12, pt p99 0), (13, .int .i64 (p : Int)), (95, .slice A50 ((wayV l (i : Int)).length) c51), (96, .int .i64 (((wayV l (i : Int)).length : Nat) : Int)), (97, .int .i64 (k : Int)), (127, .agg (by8 (bothH X ((wayV l (i : Int)).getD k []))).toArray), (129, .agg (by8 ((wayV l (i : Int)).getD k [])).toArray)], by kernel_rfl, ?_⟩
                        refine GP.perm [1, 4, 0, 2] (by kernel_rfl) rfl ?_
                        rw [← hXd_]
                        exact st250 _ H290
                      · skip
                        have hS293 : Hp w [] [.blk p3 (by8 g) 25, .row A16 l.length c17 24 32 (by8 (flat8 l)), .blk p41 (by8 (rootV l)) 25, .row A50 ((wayV l (i : Int)).length) c51 25 32 (by8 (flat8 (wayV l (i : Int)))), .blk p140 (by8 ((wayV l (i : Int)).getD k [])) 25] wD_ := HD_.sub (List.Sublist.cons_cons _ (List.Sublist.cons_cons _ (List.Sublist.cons_cons _ (List.Sublist.cons_cons _ (List.Sublist.cons _ (List.Sublist.cons _ (List.Sublist.cons_cons _ (List.Sublist.slnil))))))))
                        have hS294 : Hp w [] [.blk p3 (by8 g) 25, .row A16 l.length c17 24 32 (by8 (flat8 l)), .blk p41 (by8 (rootV l)) 25, .row A50 ((wayV l (i : Int)).length) c51 25 32 (by8 (flat8 (wayV l (i : Int)))), .blk p140 (by8 ((wayV l (i : Int)).getD k [])) 25] wD_ := HD_.sub (List.Sublist.cons_cons _ (List.Sublist.cons_cons _ (List.Sublist.cons_cons _ (List.Sublist.cons_cons _ (List.Sublist.cons _ (List.Sublist.cons _ (List.Sublist.cons_cons _ (List.Sublist.slnil))))))))
                        refine GO.made (HD_.ldA (o := 0) (ty := 24) (m := 32) (sub := by8 Y) 5 rfl (by kernel_rfl) (sub_whole (by rw [by8_length, hY])) (by rw [by8_length, hY])) [1, 11, 12, 13, 95, 96, 97, 125, 126, 128, 129] [(1, .int .i64 (j : Int)), (11, pt p89 0), (12, pt p99 0), (13, .int .i64 (p : Int)), (95, .slice A50 ((wayV l (i : Int)).length) c51), (96, .int .i64 (((wayV l (i : Int)).length : Nat) : Int)), (97, .int .i64 (k : Int)), (125, .agg (by8 X).toArray), (126, .agg (by8 ((wayV l (i : Int)).getD k [])).toArray), (128, .agg (by8 Y).toArray), (129, .agg (by8 ((wayV l (i : Int)).getD k [])).toArray)] (by kernel_rfl) (by kernel_rfl) hS294 ?_
                        refine GP.perm [1, 4, 0, 3] (by kernel_rfl) rfl ?_
                        rw [← hXd_]
                        exact st251 _ HD_
                    have st249 : ∀ (wD_ : World), Hp w [] [.blk p3 (by8 g) 25, .row A16 l.length c17 24 32 (by8 (flat8 l)), .blk p41 (by8 (rootV l)) 25, .row A50 ((wayV l (i : Int)).length) c51 25 32 (by8 (flat8 (wayV l (i : Int)))), .blk p89 (by8 X) 24, .blk p99 (by8 Y) 24, .blk p140 (by8 ((wayV l (i : Int)).getD k [])) 25] wD_ → Xd_ [1, 4, 3] [(1, .int .i64 (j : Int)), (11, pt p89 0), (12, pt p99 0), (13, .int .i64 (p : Int)), (95, .slice A50 ((wayV l (i : Int)).length) c51), (96, .int .i64 (((wayV l (i : Int)).length : Nat) : Int)), (97, .int .i64 (k : Int)), (126, .agg (by8 ((wayV l (i : Int)).getD k [])).toArray), (128, .agg (by8 Y).toArray), (129, .agg (by8 ((wayV l (i : Int)).getD k [])).toArray)] wD_ := by
                      intro wD_ HD_
                      rw [hXd_]
                      have hS295 : Hp w [] [.blk p3 (by8 g) 25, .row A16 l.length c17 24 32 (by8 (flat8 l)), .blk p41 (by8 (rootV l)) 25, .row A50 ((wayV l (i : Int)).length) c51 25 32 (by8 (flat8 (wayV l (i : Int)))), .blk p140 (by8 ((wayV l (i : Int)).getD k [])) 25] wD_ := HD_.sub (List.Sublist.cons_cons _ (List.Sublist.cons_cons _ (List.Sublist.cons_cons _ (List.Sublist.cons_cons _ (List.Sublist.cons _ (List.Sublist.cons _ (List.Sublist.cons_cons _ (List.Sublist.slnil))))))))
                      refine GP.all1 0 (by kernel_rfl) ?_
                      · skip
                        have hS296 : Hp w [] [.blk p3 (by8 g) 25, .row A16 l.length c17 24 32 (by8 (flat8 l)), .blk p41 (by8 (rootV l)) 25, .row A50 ((wayV l (i : Int)).length) c51 25 32 (by8 (flat8 (wayV l (i : Int)))), .blk p140 (by8 ((wayV l (i : Int)).getD k [])) 25] wD_ := HD_.sub (List.Sublist.cons_cons _ (List.Sublist.cons_cons _ (List.Sublist.cons_cons _ (List.Sublist.cons_cons _ (List.Sublist.cons _ (List.Sublist.cons _ (List.Sublist.cons_cons _ (List.Sublist.slnil))))))))
                        have hS297 : Hp w [] [.blk p3 (by8 g) 25, .row A16 l.length c17 24 32 (by8 (flat8 l)), .blk p41 (by8 (rootV l)) 25, .row A50 ((wayV l (i : Int)).length) c51 25 32 (by8 (flat8 (wayV l (i : Int)))), .blk p140 (by8 ((wayV l (i : Int)).getD k [])) 25] wD_ := HD_.sub (List.Sublist.cons_cons _ (List.Sublist.cons_cons _ (List.Sublist.cons_cons _ (List.Sublist.cons_cons _ (List.Sublist.cons _ (List.Sublist.cons _ (List.Sublist.cons_cons _ (List.Sublist.slnil))))))))
                        refine GO.made (HD_.ldA (o := 0) (ty := 24) (m := 32) (sub := by8 X) 4 rfl (by kernel_rfl) (sub_whole (by rw [by8_length, hX])) (by rw [by8_length, hX])) [1, 11, 12, 13, 95, 96, 97, 125, 126, 128, 129] [(1, .int .i64 (j : Int)), (11, pt p89 0), (12, pt p99 0), (13, .int .i64 (p : Int)), (95, .slice A50 ((wayV l (i : Int)).length) c51), (96, .int .i64 (((wayV l (i : Int)).length : Nat) : Int)), (97, .int .i64 (k : Int)), (125, .agg (by8 X).toArray), (126, .agg (by8 ((wayV l (i : Int)).getD k [])).toArray), (128, .agg (by8 Y).toArray), (129, .agg (by8 ((wayV l (i : Int)).getD k [])).toArray)] (by kernel_rfl) (by kernel_rfl) hS297 ?_
                        refine GP.perm [1, 4, 0, 3] (by kernel_rfl) rfl ?_
                        rw [← hXd_]
                        exact st251 _ HD_
                    have st247 : ∀ (wD_ : World), Hp w [] [.blk p3 (by8 g) 25, .row A16 l.length c17 24 32 (by8 (flat8 l)), .blk p41 (by8 (rootV l)) 25, .row A50 ((wayV l (i : Int)).length) c51 25 32 (by8 (flat8 (wayV l (i : Int)))), .blk p89 (by8 X) 24, .blk p99 (by8 Y) 24, .blk p140 (by8 ((wayV l (i : Int)).getD k [])) 25] wD_ → Xd_ [1, 4] [(1, .int .i64 (j : Int)), (11, pt p89 0), (12, pt p99 0), (13, .int .i64 (p : Int)), (95, .slice A50 ((wayV l (i : Int)).length) c51), (96, .int .i64 (((wayV l (i : Int)).length : Nat) : Int)), (97, .int .i64 (k : Int)), (126, .agg (by8 ((wayV l (i : Int)).getD k [])).toArray), (129, .agg (by8 ((wayV l (i : Int)).getD k [])).toArray)] wD_ := by
                      intro wD_ HD_
                      rw [hXd_]
                      have hS298 : Hp w [] [.blk p3 (by8 g) 25, .row A16 l.length c17 24 32 (by8 (flat8 l)), .blk p41 (by8 (rootV l)) 25, .row A50 ((wayV l (i : Int)).length) c51 25 32 (by8 (flat8 (wayV l (i : Int)))), .blk p140 (by8 ((wayV l (i : Int)).getD k [])) 25] wD_ := HD_.sub (List.Sublist.cons_cons _ (List.Sublist.cons_cons _ (List.Sublist.cons_cons _ (List.Sublist.cons_cons _ (List.Sublist.cons _ (List.Sublist.cons _ (List.Sublist.cons_cons _ (List.Sublist.slnil))))))))
                      refine GP.all2 0 3 (by kernel_rfl) ?_ ?_
                      · skip
                        have hS299 : Hp w [] [.blk p3 (by8 g) 25, .row A16 l.length c17 24 32 (by8 (flat8 l)), .blk p41 (by8 (rootV l)) 25, .row A50 ((wayV l (i : Int)).length) c51 25 32 (by8 (flat8 (wayV l (i : Int)))), .blk p140 (by8 ((wayV l (i : Int)).getD k [])) 25] wD_ := HD_.sub (List.Sublist.cons_cons _ (List.Sublist.cons_cons _ (List.Sublist.cons_cons _ (List.Sublist.cons_cons _ (List.Sublist.cons _ (List.Sublist.cons _ (List.Sublist.cons_cons _ (List.Sublist.slnil))))))))
                        have hS300 : Hp w [] [.blk p3 (by8 g) 25, .row A16 l.length c17 24 32 (by8 (flat8 l)), .blk p41 (by8 (rootV l)) 25, .row A50 ((wayV l (i : Int)).length) c51 25 32 (by8 (flat8 (wayV l (i : Int)))), .blk p140 (by8 ((wayV l (i : Int)).getD k [])) 25] wD_ := HD_.sub (List.Sublist.cons_cons _ (List.Sublist.cons_cons _ (List.Sublist.cons_cons _ (List.Sublist.cons_cons _ (List.Sublist.cons _ (List.Sublist.cons _ (List.Sublist.cons_cons _ (List.Sublist.slnil))))))))
                        refine GO.made (HD_.ldA (o := 0) (ty := 24) (m := 32) (sub := by8 X) 4 rfl (by kernel_rfl) (sub_whole (by rw [by8_length, hX])) (by rw [by8_length, hX])) [1, 11, 12, 13, 95, 96, 97, 125, 126, 129] [(1, .int .i64 (j : Int)), (11, pt p89 0), (12, pt p99 0), (13, .int .i64 (p : Int)), (95, .slice A50 ((wayV l (i : Int)).length) c51), (96, .int .i64 (((wayV l (i : Int)).length : Nat) : Int)), (97, .int .i64 (k : Int)), (125, .agg (by8 X).toArray), (126, .agg (by8 ((wayV l (i : Int)).getD k [])).toArray), (129, .agg (by8 ((wayV l (i : Int)).getD k [])).toArray)] (by kernel_rfl) (by kernel_rfl) hS300 ?_
                        refine GP.perm [1, 4, 0] (by kernel_rfl) rfl ?_
                        rw [← hXd_]
                        exact st248 _ HD_
                      · skip
                        have hS301 : Hp w [] [.blk p3 (by8 g) 25, .row A16 l.length c17 24 32 (by8 (flat8 l)), .blk p41 (by8 (rootV l)) 25, .row A50 ((wayV l (i : Int)).length) c51 25 32 (by8 (flat8 (wayV l (i : Int)))), .blk p140 (by8 ((wayV l (i : Int)).getD k [])) 25] wD_ := HD_.sub (List.Sublist.cons_cons _ (List.Sublist.cons_cons _ (List.Sublist.cons_cons _ (List.Sublist.cons_cons _ (List.Sublist.cons _ (List.Sublist.cons _ (List.Sublist.cons_cons _ (List.Sublist.slnil))))))))
                        have hS302 : Hp w [] [.blk p3 (by8 g) 25, .row A16 l.length c17 24 32 (by8 (flat8 l)), .blk p41 (by8 (rootV l)) 25, .row A50 ((wayV l (i : Int)).length) c51 25 32 (by8 (flat8 (wayV l (i : Int)))), .blk p140 (by8 ((wayV l (i : Int)).getD k [])) 25] wD_ := HD_.sub (List.Sublist.cons_cons _ (List.Sublist.cons_cons _ (List.Sublist.cons_cons _ (List.Sublist.cons_cons _ (List.Sublist.cons _ (List.Sublist.cons _ (List.Sublist.cons_cons _ (List.Sublist.slnil))))))))
                        refine GO.made (HD_.ldA (o := 0) (ty := 24) (m := 32) (sub := by8 Y) 5 rfl (by kernel_rfl) (sub_whole (by rw [by8_length, hY])) (by rw [by8_length, hY])) [1, 11, 12, 13, 95, 96, 97, 126, 128, 129] [(1, .int .i64 (j : Int)), (11, pt p89 0), (12, pt p99 0), (13, .int .i64 (p : Int)), (95, .slice A50 ((wayV l (i : Int)).length) c51), (96, .int .i64 (((wayV l (i : Int)).length : Nat) : Int)), (97, .int .i64 (k : Int)), (126, .agg (by8 ((wayV l (i : Int)).getD k [])).toArray), (128, .agg (by8 Y).toArray), (129, .agg (by8 ((wayV l (i : Int)).getD k [])).toArray)] (by kernel_rfl) (by kernel_rfl) hS302 ?_
                        refine GP.perm [1, 4, 3] (by kernel_rfl) rfl ?_
                        rw [← hXd_]
                        exact st249 _ HD_
                    exact st247 _ H231
                · skip
                  have hb152f := eq_of_beq hb152
                  refine G.yes rfl ?_
                  refine G.heldP (Hp w [] [.blk p3 (by8 g) 25, .row A16 l.length c17 24 32 (by8 (flat8 l)), .blk p41 (by8 (rootV l)) 25, .row A50 ((wayV l (i : Int)).length) c51 25 32 (by8 (flat8 (wayV l (i : Int)))), .blk p140 (by8 ((wayV l (i : Int)).getD k [])) 25]) (by kernel_rfl) (by kernel_rfl) (fun c_ a_ d_ v_ w_ h_ => hPan c_ a_ d_ v_ w_ h_) ?_
                  have H303 := H146.drew
                  generalize ({ w144 with drawn := w144.drawn + 1 } : World) = w304 at H303 ⊢
                  have hS305 : Hp w [] [.blk p3 (by8 g) 25, .row A16 l.length c17 24 32 (by8 (flat8 l)), .blk p41 (by8 (rootV l)) 25, .row A50 ((wayV l (i : Int)).length) c51 25 32 (by8 (flat8 (wayV l (i : Int)))), .blk p140 (by8 ((wayV l (i : Int)).getD k [])) 25] w304 := H303.sub (List.Sublist.cons_cons _ (List.Sublist.cons_cons _ (List.Sublist.cons_cons _ (List.Sublist.cons_cons _ (List.Sublist.cons _ (List.Sublist.cons _ (List.Sublist.cons_cons _ (List.Sublist.slnil))))))))
                  refine GP.sem 0 (fun w_ H_ => H_.ldA (o := 0) (ty := 25) (m := 32) (sub := by8 ((wayV l (i : Int)).getD k [])) 4 rfl (by kernel_rfl) (sub_whole (by rw [by8_length, ok32_at (by rw [hwv]; exact ok32_wayH l.length l i (Nat.le_refl _) hok) (by omega)])) (by rw [by8_length, ok32_at (by rw [hwv]; exact ok32_wayH l.length l i (Nat.le_refl _) hok) (by omega)])) [1, 11, 12, 13, 15, 95, 96, 97, 104] [(1, .int .i64 (j : Int)), (11, pt p89 0), (12, pt p99 0), (13, .int .i64 (p : Int)), (15, pt p140 0), (95, .slice A50 ((wayV l (i : Int)).length) c51), (96, .int .i64 (((wayV l (i : Int)).length : Nat) : Int)), (97, .int .i64 (k : Int)), (104, .agg (by8 ((wayV l (i : Int)).getD k [])).toArray)] (by kernel_rfl) (by kernel_rfl) (by kernel_rfl) hS305 ?_
                  refine GP.sem 3 (fun w_ H_ => H_.ldA (o := 0) (ty := 25) (m := 32) (sub := by8 ((wayV l (i : Int)).getD k [])) 4 rfl (by kernel_rfl) (sub_whole (by rw [by8_length, ok32_at (by rw [hwv]; exact ok32_wayH l.length l i (Nat.le_refl _) hok) (by omega)])) (by rw [by8_length, ok32_at (by rw [hwv]; exact ok32_wayH l.length l i (Nat.le_refl _) hok) (by omega)])) [1, 11, 12, 13, 95, 96, 97, 104, 107] [(1, .int .i64 (j : Int)), (11, pt p89 0), (12, pt p99 0), (13, .int .i64 (p : Int)), (95, .slice A50 ((wayV l (i : Int)).length) c51), (96, .int .i64 (((wayV l (i : Int)).length : Nat) : Int)), (97, .int .i64 (k : Int)), (104, .agg (by8 ((wayV l (i : Int)).getD k [])).toArray), (107, .agg (by8 ((wayV l (i : Int)).getD k [])).toArray)] (by kernel_rfl) (by kernel_rfl) (by kernel_rfl) hS305 ?_
                  refine GP.named fun Xd_ hXd_ => ?_
                  have st324 : ∀ (wD_ : World), Hp w [] [.blk p3 (by8 g) 25, .row A16 l.length c17 24 32 (by8 (flat8 l)), .blk p41 (by8 (rootV l)) 25, .row A50 ((wayV l (i : Int)).length) c51 25 32 (by8 (flat8 (wayV l (i : Int)))), .blk p89 (by8 X) 24, .blk p99 (by8 Y) 24, .blk p140 (by8 ((wayV l (i : Int)).getD k [])) 25] wD_ → Xd_ [0, 3, 1, 2, 4] [(1, .int .i64 (j : Int)), (11, pt p89 0), (12, pt p99 0), (13, .int .i64 (p : Int)), (95, .slice A50 ((wayV l (i : Int)).length) c51), (96, .int .i64 (((wayV l (i : Int)).length : Nat) : Int)), (97, .int .i64 (k : Int)), (106, .agg (by8 (bothH ((wayV l (i : Int)).getD k []) X)).toArray), (107, .agg (by8 ((wayV l (i : Int)).getD k [])).toArray), (108, .agg (by8 Y).toArray)] wD_ := by
                    intro wD_ HD_
                    rw [hXd_]
                    have hS325 : Hp w [] [.blk p3 (by8 g) 25, .row A16 l.length c17 24 32 (by8 (flat8 l)), .blk p41 (by8 (rootV l)) 25, .row A50 ((wayV l (i : Int)).length) c51 25 32 (by8 (flat8 (wayV l (i : Int)))), .blk p140 (by8 ((wayV l (i : Int)).getD k [])) 25] wD_ := HD_.sub (List.Sublist.cons_cons _ (List.Sublist.cons_cons _ (List.Sublist.cons_cons _ (List.Sublist.cons_cons _ (List.Sublist.cons _ (List.Sublist.cons _ (List.Sublist.cons_cons _ (List.Sublist.slnil))))))))
                    refine GP.call 5 (RefBoth_calls ((wayV l (i : Int)).getD k []) Y (by rw [ok32_at (by rw [hwv]; exact ok32_wayH l.length l i (Nat.le_refl _) hok) (by omega)]) (by rw [hY]) wD_) (by kernel_rfl) (by kernel_rfl) (fun e_ w326 hR => ?_)
                    obtain ⟨rfl, H328⟩ := hR
                    have H327 : Hp w [] [.blk p3 (by8 g) 25, .row A16 l.length c17 24 32 (by8 (flat8 l)), .blk p41 (by8 (rootV l)) 25, .row A50 ((wayV l (i : Int)).length) c51 25 32 (by8 (flat8 (wayV l (i : Int)))), .blk p89 (by8 X) 24, .blk p99 (by8 Y) 24, .blk p140 (by8 ((wayV l (i : Int)).getD k [])) 25] w326 := HD_.callNil H328
                    have hS329 : Hp w [] [.blk p3 (by8 g) 25, .row A16 l.length c17 24 32 (by8 (flat8 l)), .blk p41 (by8 (rootV l)) 25, .row A50 ((wayV l (i : Int)).length) c51 25 32 (by8 (flat8 (wayV l (i : Int)))), .blk p140 (by8 ((wayV l (i : Int)).getD k [])) 25] w326 := H327.sub (List.Sublist.cons_cons _ (List.Sublist.cons_cons _ (List.Sublist.cons_cons _ (List.Sublist.cons_cons _ (List.Sublist.cons _ (List.Sublist.cons _ (List.Sublist.cons_cons _ (List.Sublist.slnil))))))))
                    refine ⟨_, rfl, hS329, [1, 11, 12, 13, 95, 96, 97, 106, 109], [(1, .int .i64 (j : Int)), (11, pt p89 0), (12, pt p99 0), (13, .int .i64 (p : Int)), (95, .slice A50 ((wayV l (i : Int)).length) c51), (96, .int .i64 (((wayV l (i : Int)).length : Nat) : Int)), (97, .int .i64 (k : Int)), (106, .agg (by8 (bothH ((wayV l (i : Int)).getD k []) X)).toArray), (109, .agg (by8 (bothH ((wayV l (i : Int)).getD k []) Y)).toArray)], by kernel_rfl, ?_⟩
                    obtain ⟨w330, r331, H332⟩ := H327.stA (P := Try.prog) (o := 0) (vs := by8 (bothH ((wayV l (i : Int)).getD k []) X)) (ty := 24) (m := 32) 4 rfl (by kernel_rfl) (by rw [by8_length, bothH_length]) (Nat.le_of_eq (by rw [Nat.zero_add]; exact ((show (by8 X).length = 32 from by rw [by8_length, hX])).symm)) (by8_one _)
                    rw [st_whole (by rw [by8_length, hX])] at H332
                    have H332 : Hp w [] [.blk p3 (by8 g) 25, .row A16 l.length c17 24 32 (by8 (flat8 l)), .blk p41 (by8 (rootV l)) 25, .row A50 ((wayV l (i : Int)).length) c51 25 32 (by8 (flat8 (wayV l (i : Int)))), .blk p89 (by8 (bothH ((wayV l (i : Int)).getD k []) X)) 24, .blk p99 (by8 Y) 24, .blk p140 (by8 ((wayV l (i : Int)).getD k [])) 25] w330 := H332
                    have hS333 : Hp w [] [.blk p3 (by8 g) 25, .row A16 l.length c17 24 32 (by8 (flat8 l)), .blk p41 (by8 (rootV l)) 25, .row A50 ((wayV l (i : Int)).length) c51 25 32 (by8 (flat8 (wayV l (i : Int)))), .blk p140 (by8 ((wayV l (i : Int)).getD k [])) 25] w330 := H332.sub (List.Sublist.cons_cons _ (List.Sublist.cons_cons _ (List.Sublist.cons_cons _ (List.Sublist.cons_cons _ (List.Sublist.cons _ (List.Sublist.cons _ (List.Sublist.cons_cons _ (List.Sublist.slnil))))))))
                    refine GP.semU 6 r331 [1, 11, 12, 13, 95, 96, 97, 109] [(1, .int .i64 (j : Int)), (11, pt p89 0), (12, pt p99 0), (13, .int .i64 (p : Int)), (95, .slice A50 ((wayV l (i : Int)).length) c51), (96, .int .i64 (((wayV l (i : Int)).length : Nat) : Int)), (97, .int .i64 (k : Int)), (109, .agg (by8 (bothH ((wayV l (i : Int)).getD k []) Y)).toArray)] (by kernel_rfl) rfl rfl (by kernel_rfl) hS333 ?_
                    obtain ⟨w334, r335, H336⟩ := H332.stA (P := Try.prog) (o := 0) (vs := by8 (bothH ((wayV l (i : Int)).getD k []) Y)) (ty := 24) (m := 32) 5 rfl (by kernel_rfl) (by rw [by8_length, bothH_length]) (Nat.le_of_eq (by rw [Nat.zero_add]; exact ((show (by8 Y).length = 32 from by rw [by8_length, hY])).symm)) (by8_one _)
                    rw [st_whole (by rw [by8_length, hY])] at H336
                    have H336 : Hp w [] [.blk p3 (by8 g) 25, .row A16 l.length c17 24 32 (by8 (flat8 l)), .blk p41 (by8 (rootV l)) 25, .row A50 ((wayV l (i : Int)).length) c51 25 32 (by8 (flat8 (wayV l (i : Int)))), .blk p89 (by8 (bothH ((wayV l (i : Int)).getD k []) X)) 24, .blk p99 (by8 (bothH ((wayV l (i : Int)).getD k []) Y)) 24, .blk p140 (by8 ((wayV l (i : Int)).getD k [])) 25] w334 := H336
                    have hS337 : Hp w [] [.blk p3 (by8 g) 25, .row A16 l.length c17 24 32 (by8 (flat8 l)), .blk p41 (by8 (rootV l)) 25, .row A50 ((wayV l (i : Int)).length) c51 25 32 (by8 (flat8 (wayV l (i : Int)))), .blk p140 (by8 ((wayV l (i : Int)).getD k [])) 25] w334 := H336.sub (List.Sublist.cons_cons _ (List.Sublist.cons_cons _ (List.Sublist.cons_cons _ (List.Sublist.cons_cons _ (List.Sublist.cons _ (List.Sublist.cons _ (List.Sublist.cons_cons _ (List.Sublist.slnil))))))))
                    refine GP.semU 7 r335 [1, 11, 12, 13, 95, 96, 97] [(1, .int .i64 (j : Int)), (11, pt p89 0), (12, pt p99 0), (13, .int .i64 (p : Int)), (95, .slice A50 ((wayV l (i : Int)).length) c51), (96, .int .i64 (((wayV l (i : Int)).length : Nat) : Int)), (97, .int .i64 (k : Int))] (by kernel_rfl) rfl rfl (by kernel_rfl) hS337 ?_
                    refine GP.k (by kernel_rfl) hK148 (fun _ _ h => h) ?_
                    refine G.seqK fun K338 hK339 => ?_
                    refine G.region ?_
                    refine GL.run (j := 7) 7 [1, 11, 12, 13, 95, 96, 97] [(1, .int .i64 (IntKind.i64.wrap (Int.tdiv (j : Int) 2))), (11, pt p89 0), (12, pt p99 0), (13, .int .i64 (IntKind.i64.wrap (Int.tdiv (IntKind.i64.wrap ((p : Int) + 1)) 2))), (95, .slice A50 ((wayV l (i : Int)).length) c51), (96, .int .i64 (((wayV l (i : Int)).length : Nat) : Int)), (97, .int .i64 (k : Int))] (by kernel_rfl) rfl ?_
                    have e340 : (IntKind.i64.wrap (Int.tdiv (j : Int) 2)) = (((j / 2) : Nat) : Int) := i_quo (a := j) 2 (by omega)
                    have e341 : (IntKind.i64.wrap ((p : Int) + 1)) = ((p + 1 : Nat) : Int) := by rw [in_i64 (by omega)]; omega
                    have e342 : (IntKind.i64.wrap (Int.tdiv ((p + 1 : Nat) : Int) 2)) = ((((p + 1) / 2) : Nat) : Int) := i_quo (a := (p + 1)) 2 (by omega)
                    refine GL.eq (M' := [(1, .int .i64 (((j / 2) : Nat) : Int)), (11, pt p89 0), (12, pt p99 0), (13, .int .i64 ((((p + 1) / 2) : Nat) : Int)), (95, .slice A50 ((wayV l (i : Int)).length) c51), (96, .int .i64 (((wayV l (i : Int)).length : Nat) : Int)), (97, .int .i64 (k : Int))]) (by rw [e340, e341, e342]) ?_
                    clear e340 e341 e342
                    refine GL.k rfl hK339 (fun _ _ h => h) ?_
                    refine G.seqK fun K343 hK344 => ?_
                    refine G.region ?_
                    refine GL.sem (j := 1) (H336.ldA (o := 0) (ty := 24) (m := 32) (sub := by8 (bothH ((wayV l (i : Int)).getD k []) X)) 4 rfl (by kernel_rfl) (sub_whole (by rw [by8_length, bothH_length])) (by rw [by8_length, bothH_length])) [1, 11, 12, 13, 95, 96, 97, 136] [(1, .int .i64 (((j / 2) : Nat) : Int)), (11, pt p89 0), (12, pt p99 0), (13, .int .i64 ((((p + 1) / 2) : Nat) : Int)), (95, .slice A50 ((wayV l (i : Int)).length) c51), (96, .int .i64 (((wayV l (i : Int)).length : Nat) : Int)), (97, .int .i64 (k : Int)), (136, .agg (by8 (bothH ((wayV l (i : Int)).getD k []) X)).toArray)] (by kernel_rfl) (by kernel_rfl) rfl ?_
                    refine GL.sem (j := 2) (H336.ldA (o := 0) (ty := 24) (m := 32) (sub := by8 (bothH ((wayV l (i : Int)).getD k []) Y)) 5 rfl (by kernel_rfl) (sub_whole (by rw [by8_length, bothH_length])) (by rw [by8_length, bothH_length])) [1, 11, 12, 13, 95, 96, 97, 136, 137] [(1, .int .i64 (((j / 2) : Nat) : Int)), (11, pt p89 0), (12, pt p99 0), (13, .int .i64 ((((p + 1) / 2) : Nat) : Int)), (95, .slice A50 ((wayV l (i : Int)).length) c51), (96, .int .i64 (((wayV l (i : Int)).length : Nat) : Int)), (97, .int .i64 (k : Int)), (136, .agg (by8 (bothH ((wayV l (i : Int)).getD k []) X)).toArray), (137, .agg (by8 (bothH ((wayV l (i : Int)).getD k []) Y)).toArray)] (by kernel_rfl) (by kernel_rfl) rfl ?_
                    refine GL.sem (j := 3) (run_by8_eql (P := Try.prog) (t := 24) (n := 32) (x := (.tmp 136)) (y := (.tmp 137)) (by kernel_rfl) (bothH ((wayV l (i : Int)).getD k []) X) (bothH ((wayV l (i : Int)).getD k []) Y) (by rw [bothH_length]) (by rw [bothH_length]) _) [1, 11, 12, 13, 95, 96, 97, 138] [(1, .int .i64 (((j / 2) : Nat) : Int)), (11, pt p89 0), (12, pt p99 0), (13, .int .i64 ((((p + 1) / 2) : Nat) : Int)), (95, .slice A50 ((wayV l (i : Int)).length) c51), (96, .int .i64 (((wayV l (i : Int)).length : Nat) : Int)), (97, .int .i64 (k : Int)), (138, .bool (decide ((bothH ((wayV l (i : Int)).getD k []) X) = (bothH ((wayV l (i : Int)).getD k []) Y))))] (by kernel_rfl) (by kernel_rfl) rfl ?_
                    refine GL.k rfl hK344 (fun _ _ h => h) ?_
                    cases hb345 : (decide ((bothH ((wayV l (i : Int)).getD k []) X) = (bothH ((wayV l (i : Int)).getD k []) Y)))
                    · skip
                      have hb345f := of_decide_eq_false hb345
                      have hne1 := of_decide_eq_false hb345
                      refine G.no rfl ?_
                      refine G.skipK hK137 (fun _ _ h => h) ?_
                      refine G.region ?_
                      refine GL.run (j := 2) 2 [1, 11, 12, 13, 95, 96, 97] [(1, .int .i64 (((j / 2) : Nat) : Int)), (11, pt p89 0), (12, pt p99 0), (13, .int .i64 ((((p + 1) / 2) : Nat) : Int)), (95, .slice A50 ((wayV l (i : Int)).length) c51), (96, .int .i64 (((wayV l (i : Int)).length : Nat) : Int)), (97, .int .i64 (IntKind.i64.wrap ((k : Int) + 1)))] (by kernel_rfl) rfl ?_
                      have e346 : (IntKind.i64.wrap ((k : Int) + 1)) = ((k + 1 : Nat) : Int) := by rw [in_i64 (by omega)]; omega
                      refine GL.eq (M' := [(1, .int .i64 (((j / 2) : Nat) : Int)), (11, pt p89 0), (12, pt p99 0), (13, .int .i64 ((((p + 1) / 2) : Nat) : Int)), (95, .slice A50 ((wayV l (i : Int)).length) c51), (96, .int .i64 (((wayV l (i : Int)).length : Nat) : Int)), (97, .int .i64 ((k + 1 : Nat) : Int))]) (by rw [e346]) ?_
                      clear e346
                      have H347 : Hp w [] [.blk p3 (by8 g) 25, .row A16 l.length c17 24 32 (by8 (flat8 l)), .blk p41 (by8 (rootV l)) 25, .row A50 ((wayV l (i : Int)).length) c51 25 32 (by8 (flat8 (wayV l (i : Int)))), .blk p89 (by8 (bothH ((wayV l (i : Int)).getD k []) X)) 24, .blk p99 (by8 (bothH ((wayV l (i : Int)).getD k []) Y)) 24] w334 := H336.sub (List.Sublist.cons_cons _ (List.Sublist.cons_cons _ (List.Sublist.cons_cons _ (List.Sublist.cons_cons _ (List.Sublist.cons_cons _ (List.Sublist.cons_cons _ (List.Sublist.cons _ (List.Sublist.slnil))))))))
                      refine GL.fit (ts := [1, 11, 12, 13, 95, 96, 97]) (M' := [(1, .int .i64 (((j / 2) : Nat) : Int)), (11, pt p89 0), (12, pt p99 0), (13, .int .i64 ((((p + 1) / 2) : Nat) : Int)), (95, .slice A50 ((wayV l (i : Int)).length) c51), (96, .int .i64 (((wayV l (i : Int)).length : Nat) : Int)), (97, .int .i64 ((k + 1 : Nat) : Int))]) (by kernel_rfl) ?_
                      refine GL.eq (M' := [(1, .int .i64 (((j / 2) : Nat) : Int)), (11, pt p89 0), (12, pt p99 0), (13, .int .i64 ((((p + 1) / 2) : Nat) : Int)), (95, .slice A50 ((wayV l (i : Int)).length) c51), (96, .int .i64 (((wayV l (i : Int)).length : Nat) : Int)), (97, .int .i64 (((k + 1) : Nat) : Int))]) (by rfl) ?_
                      exact GL.again ⟨(k + 1), (bothH ((wayV l (i : Int)).getD k []) X), (bothH ((wayV l (i : Int)).getD k []) Y), (j / 2), ((p + 1) / 2)⟩ [1, 11, 12, 13, 95, 96, 97] rfl (by kernel_rfl) (by show (wayV l (i : Int)).length - (k + 1) < (wayV l (i : Int)).length - k; omega) ⟨⟨by have h_ := hcx2; unfold turnH at h_; rw [if_pos (by omega)] at h_; exact h_, by have h_ := hcy2; unfold turnH at h_; rw [if_pos (by omega)] at h_; exact h_, hne1, bothH_length _ _, bothH_length _ _, by omega, by omega, by omega⟩, H347⟩
                    · skip
                      have hb345f := of_decide_eq_true hb345
                      refine G.yes rfl ?_
                      refine G.seqK fun K348 hK349 => ?_
                      refine G.region ?_
                      refine GL.run (j := 1) 1 [6] [(6, .bool true)] (by kernel_rfl) rfl ?_
                      refine GL.k rfl hK349 (fun _ _ h => h) ?_
                      refine G.ret ?_
                      intro F_ hF_ hM_
                      refine hRet _ _ (bodyPost_1 rfl (RV.tmp rfl) ?_ F_ hF_ hM_)
                      exact ⟨rfl, H336.sub (List.nil_sublist _)⟩
                  have st322 : ∀ (wD_ : World), Hp w [] [.blk p3 (by8 g) 25, .row A16 l.length c17 24 32 (by8 (flat8 l)), .blk p41 (by8 (rootV l)) 25, .row A50 ((wayV l (i : Int)).length) c51 25 32 (by8 (flat8 (wayV l (i : Int)))), .blk p89 (by8 X) 24, .blk p99 (by8 Y) 24, .blk p140 (by8 ((wayV l (i : Int)).getD k [])) 25] wD_ → Xd_ [0, 3, 1, 2] [(1, .int .i64 (j : Int)), (11, pt p89 0), (12, pt p99 0), (13, .int .i64 (p : Int)), (95, .slice A50 ((wayV l (i : Int)).length) c51), (96, .int .i64 (((wayV l (i : Int)).length : Nat) : Int)), (97, .int .i64 (k : Int)), (106, .agg (by8 (bothH ((wayV l (i : Int)).getD k []) X)).toArray), (107, .agg (by8 ((wayV l (i : Int)).getD k [])).toArray)] wD_ := by
                    intro wD_ HD_
                    rw [hXd_]
                    have hS350 : Hp w [] [.blk p3 (by8 g) 25, .row A16 l.length c17 24 32 (by8 (flat8 l)), .blk p41 (by8 (rootV l)) 25, .row A50 ((wayV l (i : Int)).length) c51 25 32 (by8 (flat8 (wayV l (i : Int)))), .blk p140 (by8 ((wayV l (i : Int)).getD k [])) 25] wD_ := HD_.sub (List.Sublist.cons_cons _ (List.Sublist.cons_cons _ (List.Sublist.cons_cons _ (List.Sublist.cons_cons _ (List.Sublist.cons _ (List.Sublist.cons _ (List.Sublist.cons_cons _ (List.Sublist.slnil))))))))
                    refine GP.all1 4 (by kernel_rfl) ?_
                    · skip
                      have hS351 : Hp w [] [.blk p3 (by8 g) 25, .row A16 l.length c17 24 32 (by8 (flat8 l)), .blk p41 (by8 (rootV l)) 25, .row A50 ((wayV l (i : Int)).length) c51 25 32 (by8 (flat8 (wayV l (i : Int)))), .blk p140 (by8 ((wayV l (i : Int)).getD k [])) 25] wD_ := HD_.sub (List.Sublist.cons_cons _ (List.Sublist.cons_cons _ (List.Sublist.cons_cons _ (List.Sublist.cons_cons _ (List.Sublist.cons _ (List.Sublist.cons _ (List.Sublist.cons_cons _ (List.Sublist.slnil))))))))
                      have hS352 : Hp w [] [.blk p3 (by8 g) 25, .row A16 l.length c17 24 32 (by8 (flat8 l)), .blk p41 (by8 (rootV l)) 25, .row A50 ((wayV l (i : Int)).length) c51 25 32 (by8 (flat8 (wayV l (i : Int)))), .blk p140 (by8 ((wayV l (i : Int)).getD k [])) 25] wD_ := HD_.sub (List.Sublist.cons_cons _ (List.Sublist.cons_cons _ (List.Sublist.cons_cons _ (List.Sublist.cons_cons _ (List.Sublist.cons _ (List.Sublist.cons _ (List.Sublist.cons_cons _ (List.Sublist.slnil))))))))
                      refine GO.made (HD_.ldA (o := 0) (ty := 24) (m := 32) (sub := by8 Y) 5 rfl (by kernel_rfl) (sub_whole (by rw [by8_length, hY])) (by rw [by8_length, hY])) [1, 11, 12, 13, 95, 96, 97, 106, 107, 108] [(1, .int .i64 (j : Int)), (11, pt p89 0), (12, pt p99 0), (13, .int .i64 (p : Int)), (95, .slice A50 ((wayV l (i : Int)).length) c51), (96, .int .i64 (((wayV l (i : Int)).length : Nat) : Int)), (97, .int .i64 (k : Int)), (106, .agg (by8 (bothH ((wayV l (i : Int)).getD k []) X)).toArray), (107, .agg (by8 ((wayV l (i : Int)).getD k [])).toArray), (108, .agg (by8 Y).toArray)] (by kernel_rfl) (by kernel_rfl) hS352 ?_
                      refine GP.perm [0, 3, 1, 2, 4] (by kernel_rfl) rfl ?_
                      rw [← hXd_]
                      exact st324 _ HD_
                  have st323 : ∀ (wD_ : World), Hp w [] [.blk p3 (by8 g) 25, .row A16 l.length c17 24 32 (by8 (flat8 l)), .blk p41 (by8 (rootV l)) 25, .row A50 ((wayV l (i : Int)).length) c51 25 32 (by8 (flat8 (wayV l (i : Int)))), .blk p89 (by8 X) 24, .blk p99 (by8 Y) 24, .blk p140 (by8 ((wayV l (i : Int)).getD k [])) 25] wD_ → Xd_ [0, 3, 1, 4] [(1, .int .i64 (j : Int)), (11, pt p89 0), (12, pt p99 0), (13, .int .i64 (p : Int)), (95, .slice A50 ((wayV l (i : Int)).length) c51), (96, .int .i64 (((wayV l (i : Int)).length : Nat) : Int)), (97, .int .i64 (k : Int)), (104, .agg (by8 ((wayV l (i : Int)).getD k [])).toArray), (105, .agg (by8 X).toArray), (107, .agg (by8 ((wayV l (i : Int)).getD k [])).toArray), (108, .agg (by8 Y).toArray)] wD_ := by
                    intro wD_ HD_
                    rw [hXd_]
                    have hS353 : Hp w [] [.blk p3 (by8 g) 25, .row A16 l.length c17 24 32 (by8 (flat8 l)), .blk p41 (by8 (rootV l)) 25, .row A50 ((wayV l (i : Int)).length) c51 25 32 (by8 (flat8 (wayV l (i : Int)))), .blk p140 (by8 ((wayV l (i : Int)).getD k [])) 25] wD_ := HD_.sub (List.Sublist.cons_cons _ (List.Sublist.cons_cons _ (List.Sublist.cons_cons _ (List.Sublist.cons_cons _ (List.Sublist.cons _ (List.Sublist.cons _ (List.Sublist.cons_cons _ (List.Sublist.slnil))))))))
                    refine GP.all1 2 (by kernel_rfl) ?_
                    · skip
                      have hS354 : Hp w [] [.blk p3 (by8 g) 25, .row A16 l.length c17 24 32 (by8 (flat8 l)), .blk p41 (by8 (rootV l)) 25, .row A50 ((wayV l (i : Int)).length) c51 25 32 (by8 (flat8 (wayV l (i : Int)))), .blk p140 (by8 ((wayV l (i : Int)).getD k [])) 25] wD_ := HD_.sub (List.Sublist.cons_cons _ (List.Sublist.cons_cons _ (List.Sublist.cons_cons _ (List.Sublist.cons_cons _ (List.Sublist.cons _ (List.Sublist.cons _ (List.Sublist.cons_cons _ (List.Sublist.slnil))))))))
                      refine GO.call (RefBoth_calls ((wayV l (i : Int)).getD k []) X (by rw [ok32_at (by rw [hwv]; exact ok32_wayH l.length l i (Nat.le_refl _) hok) (by omega)]) (by rw [hX]) wD_) (by kernel_rfl) (fun e_ w355 hR => ?_)
                      obtain ⟨rfl, H357⟩ := hR
                      have H356 : Hp w [] [.blk p3 (by8 g) 25, .row A16 l.length c17 24 32 (by8 (flat8 l)), .blk p41 (by8 (rootV l)) 25, .row A50 ((wayV l (i : Int)).length) c51 25 32 (by8 (flat8 (wayV l (i : Int)))), .blk p89 (by8 X) 24, .blk p99 (by8 Y) 24, .blk p140 (by8 ((wayV l (i : Int)).getD k [])) 25] w355 := HD_.callNil H357
                      have hS358 : Hp w [] [.blk p3 (by8 g) 25, .row A16 l.length c17 24 32 (by8 (flat8 l)), .blk p41 (by8 (rootV l)) 25, .row A50 ((wayV l (i : Int)).length) c51 25 32 (by8 (flat8 (wayV l (i : Int)))), .blk p140 (by8 ((wayV l (i : Int)).getD k [])) 25] w355 := H356.sub (List.Sublist.cons_cons _ (List.Sublist.cons_cons _ (List.Sublist.cons_cons _ (List.Sublist.cons_cons _ (List.Sublist.cons _ (List.Sublist.cons _ (List.Sublist.cons_cons _ (List.Sublist.slnil))))))))
                      refine ⟨_, rfl, hS358, [1, 11, 12, 13, 95, 96, 97, 106, 107, 108], [(1, .int .i64 (j : Int)), (11, pt p89 0), (12, pt p99 0), (13, .int .i64 (p : Int)), (95, .slice A50 ((wayV l (i : Int)).length) c51), (96, .int .i64 (((wayV l (i : Int)).length : Nat) : Int)), (97, .int .i64 (k : Int)), (106, .agg (by8 (bothH ((wayV l (i : Int)).getD k []) X)).toArray), (107, .agg (by8 ((wayV l (i : Int)).getD k [])).toArray), (108, .agg (by8 Y).toArray)], by kernel_rfl, ?_⟩
                      refine GP.perm [0, 3, 1, 2, 4] (by kernel_rfl) rfl ?_
                      rw [← hXd_]
                      exact st324 _ H356
                  have st320 : ∀ (wD_ : World), Hp w [] [.blk p3 (by8 g) 25, .row A16 l.length c17 24 32 (by8 (flat8 l)), .blk p41 (by8 (rootV l)) 25, .row A50 ((wayV l (i : Int)).length) c51 25 32 (by8 (flat8 (wayV l (i : Int)))), .blk p89 (by8 X) 24, .blk p99 (by8 Y) 24, .blk p140 (by8 ((wayV l (i : Int)).getD k [])) 25] wD_ → Xd_ [0, 3, 1] [(1, .int .i64 (j : Int)), (11, pt p89 0), (12, pt p99 0), (13, .int .i64 (p : Int)), (95, .slice A50 ((wayV l (i : Int)).length) c51), (96, .int .i64 (((wayV l (i : Int)).length : Nat) : Int)), (97, .int .i64 (k : Int)), (104, .agg (by8 ((wayV l (i : Int)).getD k [])).toArray), (105, .agg (by8 X).toArray), (107, .agg (by8 ((wayV l (i : Int)).getD k [])).toArray)] wD_ := by
                    intro wD_ HD_
                    rw [hXd_]
                    have hS359 : Hp w [] [.blk p3 (by8 g) 25, .row A16 l.length c17 24 32 (by8 (flat8 l)), .blk p41 (by8 (rootV l)) 25, .row A50 ((wayV l (i : Int)).length) c51 25 32 (by8 (flat8 (wayV l (i : Int)))), .blk p140 (by8 ((wayV l (i : Int)).getD k [])) 25] wD_ := HD_.sub (List.Sublist.cons_cons _ (List.Sublist.cons_cons _ (List.Sublist.cons_cons _ (List.Sublist.cons_cons _ (List.Sublist.cons _ (List.Sublist.cons _ (List.Sublist.cons_cons _ (List.Sublist.slnil))))))))
                    refine GP.all2 2 4 (by kernel_rfl) ?_ ?_
                    · skip
                      have hS360 : Hp w [] [.blk p3 (by8 g) 25, .row A16 l.length c17 24 32 (by8 (flat8 l)), .blk p41 (by8 (rootV l)) 25, .row A50 ((wayV l (i : Int)).length) c51 25 32 (by8 (flat8 (wayV l (i : Int)))), .blk p140 (by8 ((wayV l (i : Int)).getD k [])) 25] wD_ := HD_.sub (List.Sublist.cons_cons _ (List.Sublist.cons_cons _ (List.Sublist.cons_cons _ (List.Sublist.cons_cons _ (List.Sublist.cons _ (List.Sublist.cons _ (List.Sublist.cons_cons _ (List.Sublist.slnil))))))))
                      refine GO.call (RefBoth_calls ((wayV l (i : Int)).getD k []) X (by rw [ok32_at (by rw [hwv]; exact ok32_wayH l.length l i (Nat.le_refl _) hok) (by omega)]) (by rw [hX]) wD_) (by kernel_rfl) (fun e_ w361 hR => ?_)
                      obtain ⟨rfl, H363⟩ := hR
                      have H362 : Hp w [] [.blk p3 (by8 g) 25, .row A16 l.length c17 24 32 (by8 (flat8 l)), .blk p41 (by8 (rootV l)) 25, .row A50 ((wayV l (i : Int)).length) c51 25 32 (by8 (flat8 (wayV l (i : Int)))), .blk p89 (by8 X) 24, .blk p99 (by8 Y) 24, .blk p140 (by8 ((wayV l (i : Int)).getD k [])) 25] w361 := HD_.callNil H363
                      have hS364 : Hp w [] [.blk p3 (by8 g) 25, .row A16 l.length c17 24 32 (by8 (flat8 l)), .blk p41 (by8 (rootV l)) 25, .row A50 ((wayV l (i : Int)).length) c51 25 32 (by8 (flat8 (wayV l (i : Int)))), .blk p140 (by8 ((wayV l (i : Int)).getD k [])) 25] w361 := H362.sub (List.Sublist.cons_cons _ (List.Sublist.cons_cons _ (List.Sublist.cons_cons _ (List.Sublist.cons_cons _ (List.Sublist.cons _ (List.Sublist.cons _ (List.Sublist.cons_cons _ (List.Sublist.slnil))))))))
                      refine ⟨_, rfl, hS364, [1, 11, 12, 13, 95, 96, 97, 106, 107], [(1, .int .i64 (j : Int)), (11, pt p89 0), (12, pt p99 0), (13, .int .i64 (p : Int)), (95, .slice A50 ((wayV l (i : Int)).length) c51), (96, .int .i64 (((wayV l (i : Int)).length : Nat) : Int)), (97, .int .i64 (k : Int)), (106, .agg (by8 (bothH ((wayV l (i : Int)).getD k []) X)).toArray), (107, .agg (by8 ((wayV l (i : Int)).getD k [])).toArray)], by kernel_rfl, ?_⟩
                      refine GP.perm [0, 3, 1, 2] (by kernel_rfl) rfl ?_
                      rw [← hXd_]
                      exact st322 _ H362
                    · skip
                      have hS365 : Hp w [] [.blk p3 (by8 g) 25, .row A16 l.length c17 24 32 (by8 (flat8 l)), .blk p41 (by8 (rootV l)) 25, .row A50 ((wayV l (i : Int)).length) c51 25 32 (by8 (flat8 (wayV l (i : Int)))), .blk p140 (by8 ((wayV l (i : Int)).getD k [])) 25] wD_ := HD_.sub (List.Sublist.cons_cons _ (List.Sublist.cons_cons _ (List.Sublist.cons_cons _ (List.Sublist.cons_cons _ (List.Sublist.cons _ (List.Sublist.cons _ (List.Sublist.cons_cons _ (List.Sublist.slnil))))))))
                      have hS366 : Hp w [] [.blk p3 (by8 g) 25, .row A16 l.length c17 24 32 (by8 (flat8 l)), .blk p41 (by8 (rootV l)) 25, .row A50 ((wayV l (i : Int)).length) c51 25 32 (by8 (flat8 (wayV l (i : Int)))), .blk p140 (by8 ((wayV l (i : Int)).getD k [])) 25] wD_ := HD_.sub (List.Sublist.cons_cons _ (List.Sublist.cons_cons _ (List.Sublist.cons_cons _ (List.Sublist.cons_cons _ (List.Sublist.cons _ (List.Sublist.cons _ (List.Sublist.cons_cons _ (List.Sublist.slnil))))))))
                      refine GO.made (HD_.ldA (o := 0) (ty := 24) (m := 32) (sub := by8 Y) 5 rfl (by kernel_rfl) (sub_whole (by rw [by8_length, hY])) (by rw [by8_length, hY])) [1, 11, 12, 13, 95, 96, 97, 104, 105, 107, 108] [(1, .int .i64 (j : Int)), (11, pt p89 0), (12, pt p99 0), (13, .int .i64 (p : Int)), (95, .slice A50 ((wayV l (i : Int)).length) c51), (96, .int .i64 (((wayV l (i : Int)).length : Nat) : Int)), (97, .int .i64 (k : Int)), (104, .agg (by8 ((wayV l (i : Int)).getD k [])).toArray), (105, .agg (by8 X).toArray), (107, .agg (by8 ((wayV l (i : Int)).getD k [])).toArray), (108, .agg (by8 Y).toArray)] (by kernel_rfl) (by kernel_rfl) hS366 ?_
                      refine GP.perm [0, 3, 1, 4] (by kernel_rfl) rfl ?_
                      rw [← hXd_]
                      exact st323 _ HD_
                  have st321 : ∀ (wD_ : World), Hp w [] [.blk p3 (by8 g) 25, .row A16 l.length c17 24 32 (by8 (flat8 l)), .blk p41 (by8 (rootV l)) 25, .row A50 ((wayV l (i : Int)).length) c51 25 32 (by8 (flat8 (wayV l (i : Int)))), .blk p89 (by8 X) 24, .blk p99 (by8 Y) 24, .blk p140 (by8 ((wayV l (i : Int)).getD k [])) 25] wD_ → Xd_ [0, 3, 4] [(1, .int .i64 (j : Int)), (11, pt p89 0), (12, pt p99 0), (13, .int .i64 (p : Int)), (95, .slice A50 ((wayV l (i : Int)).length) c51), (96, .int .i64 (((wayV l (i : Int)).length : Nat) : Int)), (97, .int .i64 (k : Int)), (104, .agg (by8 ((wayV l (i : Int)).getD k [])).toArray), (107, .agg (by8 ((wayV l (i : Int)).getD k [])).toArray), (108, .agg (by8 Y).toArray)] wD_ := by
                    intro wD_ HD_
                    rw [hXd_]
                    have hS367 : Hp w [] [.blk p3 (by8 g) 25, .row A16 l.length c17 24 32 (by8 (flat8 l)), .blk p41 (by8 (rootV l)) 25, .row A50 ((wayV l (i : Int)).length) c51 25 32 (by8 (flat8 (wayV l (i : Int)))), .blk p140 (by8 ((wayV l (i : Int)).getD k [])) 25] wD_ := HD_.sub (List.Sublist.cons_cons _ (List.Sublist.cons_cons _ (List.Sublist.cons_cons _ (List.Sublist.cons_cons _ (List.Sublist.cons _ (List.Sublist.cons _ (List.Sublist.cons_cons _ (List.Sublist.slnil))))))))
                    refine GP.all1 1 (by kernel_rfl) ?_
                    · skip
                      have hS368 : Hp w [] [.blk p3 (by8 g) 25, .row A16 l.length c17 24 32 (by8 (flat8 l)), .blk p41 (by8 (rootV l)) 25, .row A50 ((wayV l (i : Int)).length) c51 25 32 (by8 (flat8 (wayV l (i : Int)))), .blk p140 (by8 ((wayV l (i : Int)).getD k [])) 25] wD_ := HD_.sub (List.Sublist.cons_cons _ (List.Sublist.cons_cons _ (List.Sublist.cons_cons _ (List.Sublist.cons_cons _ (List.Sublist.cons _ (List.Sublist.cons _ (List.Sublist.cons_cons _ (List.Sublist.slnil))))))))
                      have hS369 : Hp w [] [.blk p3 (by8 g) 25, .row A16 l.length c17 24 32 (by8 (flat8 l)), .blk p41 (by8 (rootV l)) 25, .row A50 ((wayV l (i : Int)).length) c51 25 32 (by8 (flat8 (wayV l (i : Int)))), .blk p140 (by8 ((wayV l (i : Int)).getD k [])) 25] wD_ := HD_.sub (List.Sublist.cons_cons _ (List.Sublist.cons_cons _ (List.Sublist.cons_cons _ (List.Sublist.cons_cons _ (List.Sublist.cons _ (List.Sublist.cons _ (List.Sublist.cons_cons _ (List.Sublist.slnil))))))))
                      refine GO.made (HD_.ldA (o := 0) (ty := 24) (m := 32) (sub := by8 X) 4 rfl (by kernel_rfl) (sub_whole (by rw [by8_length, hX])) (by rw [by8_length, hX])) [1, 11, 12, 13, 95, 96, 97, 104, 105, 107, 108] [(1, .int .i64 (j : Int)), (11, pt p89 0), (12, pt p99 0), (13, .int .i64 (p : Int)), (95, .slice A50 ((wayV l (i : Int)).length) c51), (96, .int .i64 (((wayV l (i : Int)).length : Nat) : Int)), (97, .int .i64 (k : Int)), (104, .agg (by8 ((wayV l (i : Int)).getD k [])).toArray), (105, .agg (by8 X).toArray), (107, .agg (by8 ((wayV l (i : Int)).getD k [])).toArray), (108, .agg (by8 Y).toArray)] (by kernel_rfl) (by kernel_rfl) hS369 ?_
                      refine GP.perm [0, 3, 1, 4] (by kernel_rfl) rfl ?_
                      rw [← hXd_]
                      exact st323 _ HD_
                  have st319 : ∀ (wD_ : World), Hp w [] [.blk p3 (by8 g) 25, .row A16 l.length c17 24 32 (by8 (flat8 l)), .blk p41 (by8 (rootV l)) 25, .row A50 ((wayV l (i : Int)).length) c51 25 32 (by8 (flat8 (wayV l (i : Int)))), .blk p89 (by8 X) 24, .blk p99 (by8 Y) 24, .blk p140 (by8 ((wayV l (i : Int)).getD k [])) 25] wD_ → Xd_ [0, 3] [(1, .int .i64 (j : Int)), (11, pt p89 0), (12, pt p99 0), (13, .int .i64 (p : Int)), (95, .slice A50 ((wayV l (i : Int)).length) c51), (96, .int .i64 (((wayV l (i : Int)).length : Nat) : Int)), (97, .int .i64 (k : Int)), (104, .agg (by8 ((wayV l (i : Int)).getD k [])).toArray), (107, .agg (by8 ((wayV l (i : Int)).getD k [])).toArray)] wD_ := by
                    intro wD_ HD_
                    rw [hXd_]
                    have hS370 : Hp w [] [.blk p3 (by8 g) 25, .row A16 l.length c17 24 32 (by8 (flat8 l)), .blk p41 (by8 (rootV l)) 25, .row A50 ((wayV l (i : Int)).length) c51 25 32 (by8 (flat8 (wayV l (i : Int)))), .blk p140 (by8 ((wayV l (i : Int)).getD k [])) 25] wD_ := HD_.sub (List.Sublist.cons_cons _ (List.Sublist.cons_cons _ (List.Sublist.cons_cons _ (List.Sublist.cons_cons _ (List.Sublist.cons _ (List.Sublist.cons _ (List.Sublist.cons_cons _ (List.Sublist.slnil))))))))
                    refine GP.all2 1 4 (by kernel_rfl) ?_ ?_
                    · skip
                      have hS371 : Hp w [] [.blk p3 (by8 g) 25, .row A16 l.length c17 24 32 (by8 (flat8 l)), .blk p41 (by8 (rootV l)) 25, .row A50 ((wayV l (i : Int)).length) c51 25 32 (by8 (flat8 (wayV l (i : Int)))), .blk p140 (by8 ((wayV l (i : Int)).getD k [])) 25] wD_ := HD_.sub (List.Sublist.cons_cons _ (List.Sublist.cons_cons _ (List.Sublist.cons_cons _ (List.Sublist.cons_cons _ (List.Sublist.cons _ (List.Sublist.cons _ (List.Sublist.cons_cons _ (List.Sublist.slnil))))))))
                      have hS372 : Hp w [] [.blk p3 (by8 g) 25, .row A16 l.length c17 24 32 (by8 (flat8 l)), .blk p41 (by8 (rootV l)) 25, .row A50 ((wayV l (i : Int)).length) c51 25 32 (by8 (flat8 (wayV l (i : Int)))), .blk p140 (by8 ((wayV l (i : Int)).getD k [])) 25] wD_ := HD_.sub (List.Sublist.cons_cons _ (List.Sublist.cons_cons _ (List.Sublist.cons_cons _ (List.Sublist.cons_cons _ (List.Sublist.cons _ (List.Sublist.cons _ (List.Sublist.cons_cons _ (List.Sublist.slnil))))))))
                      refine GO.made (HD_.ldA (o := 0) (ty := 24) (m := 32) (sub := by8 X) 4 rfl (by kernel_rfl) (sub_whole (by rw [by8_length, hX])) (by rw [by8_length, hX])) [1, 11, 12, 13, 95, 96, 97, 104, 105, 107] [(1, .int .i64 (j : Int)), (11, pt p89 0), (12, pt p99 0), (13, .int .i64 (p : Int)), (95, .slice A50 ((wayV l (i : Int)).length) c51), (96, .int .i64 (((wayV l (i : Int)).length : Nat) : Int)), (97, .int .i64 (k : Int)), (104, .agg (by8 ((wayV l (i : Int)).getD k [])).toArray), (105, .agg (by8 X).toArray), (107, .agg (by8 ((wayV l (i : Int)).getD k [])).toArray)] (by kernel_rfl) (by kernel_rfl) hS372 ?_
                      refine GP.perm [0, 3, 1] (by kernel_rfl) rfl ?_
                      rw [← hXd_]
                      exact st320 _ HD_
                    · skip
                      have hS373 : Hp w [] [.blk p3 (by8 g) 25, .row A16 l.length c17 24 32 (by8 (flat8 l)), .blk p41 (by8 (rootV l)) 25, .row A50 ((wayV l (i : Int)).length) c51 25 32 (by8 (flat8 (wayV l (i : Int)))), .blk p140 (by8 ((wayV l (i : Int)).getD k [])) 25] wD_ := HD_.sub (List.Sublist.cons_cons _ (List.Sublist.cons_cons _ (List.Sublist.cons_cons _ (List.Sublist.cons_cons _ (List.Sublist.cons _ (List.Sublist.cons _ (List.Sublist.cons_cons _ (List.Sublist.slnil))))))))
                      have hS374 : Hp w [] [.blk p3 (by8 g) 25, .row A16 l.length c17 24 32 (by8 (flat8 l)), .blk p41 (by8 (rootV l)) 25, .row A50 ((wayV l (i : Int)).length) c51 25 32 (by8 (flat8 (wayV l (i : Int)))), .blk p140 (by8 ((wayV l (i : Int)).getD k [])) 25] wD_ := HD_.sub (List.Sublist.cons_cons _ (List.Sublist.cons_cons _ (List.Sublist.cons_cons _ (List.Sublist.cons_cons _ (List.Sublist.cons _ (List.Sublist.cons _ (List.Sublist.cons_cons _ (List.Sublist.slnil))))))))
                      refine GO.made (HD_.ldA (o := 0) (ty := 24) (m := 32) (sub := by8 Y) 5 rfl (by kernel_rfl) (sub_whole (by rw [by8_length, hY])) (by rw [by8_length, hY])) [1, 11, 12, 13, 95, 96, 97, 104, 107, 108] [(1, .int .i64 (j : Int)), (11, pt p89 0), (12, pt p99 0), (13, .int .i64 (p : Int)), (95, .slice A50 ((wayV l (i : Int)).length) c51), (96, .int .i64 (((wayV l (i : Int)).length : Nat) : Int)), (97, .int .i64 (k : Int)), (104, .agg (by8 ((wayV l (i : Int)).getD k [])).toArray), (107, .agg (by8 ((wayV l (i : Int)).getD k [])).toArray), (108, .agg (by8 Y).toArray)] (by kernel_rfl) (by kernel_rfl) hS374 ?_
                      refine GP.perm [0, 3, 4] (by kernel_rfl) rfl ?_
                      rw [← hXd_]
                      exact st321 _ HD_
                  exact st319 _ H303
            have st110 : ∀ (wD_ : World) (p89 : Nat), Hp w [] [.blk p3 (by8 g) 25, .row A16 l.length c17 24 32 (by8 (flat8 l)), .blk p41 (by8 (rootV l)) 25, .row A50 ((wayV l (i : Int)).length) c51 25 32 (by8 (flat8 (wayV l (i : Int)))), .blk p89 (by8 (List.replicate 32 0)) 24] wD_ → Xd_ [0, 1, 2, 3, 4, 5, 6, 7] [(1, .int .i64 (i : Int)), (9, .slice A50 ((wayV l (i : Int)).length) c51), (11, pt p89 0), (91, .agg (by8 (l.getD i [])).toArray), (92, .agg (by8 g).toArray), (94, .int .i64 (l.length : Int))] wD_ := by
              intro wD_ p89 HD_
              rw [hXd_]
              have hS375 : Hp w [] [.blk p3 (by8 g) 25, .row A16 l.length c17 24 32 (by8 (flat8 l)), .blk p41 (by8 (rootV l)) 25, .row A50 ((wayV l (i : Int)).length) c51 25 32 (by8 (flat8 (wayV l (i : Int))))] wD_ := HD_.sub (List.Sublist.cons_cons _ (List.Sublist.cons_cons _ (List.Sublist.cons_cons _ (List.Sublist.cons_cons _ (List.Sublist.cons _ (List.Sublist.slnil))))))
              refine GP.all1 8 (by kernel_rfl) ?_
              · skip
                have hS376 : Hp w [] [.blk p3 (by8 g) 25, .row A16 l.length c17 24 32 (by8 (flat8 l)), .blk p41 (by8 (rootV l)) 25, .row A50 ((wayV l (i : Int)).length) c51 25 32 (by8 (flat8 (wayV l (i : Int))))] wD_ := HD_.sub (List.Sublist.cons_cons _ (List.Sublist.cons_cons _ (List.Sublist.cons_cons _ (List.Sublist.cons_cons _ (List.Sublist.cons _ (List.Sublist.slnil))))))
                obtain ⟨p377, w378, r379, H380⟩ := HD_.alloc (P := Try.prog) 24 (by8 (List.replicate 32 0)) (by kernel_rfl)
                have H380 : Hp w [] [.blk p3 (by8 g) 25, .row A16 l.length c17 24 32 (by8 (flat8 l)), .blk p41 (by8 (rootV l)) 25, .row A50 ((wayV l (i : Int)).length) c51 25 32 (by8 (flat8 (wayV l (i : Int)))), .blk p89 (by8 (List.replicate 32 0)) 24, .blk p377 (by8 (List.replicate 32 0)) 24] w378 := H380
                have hS381 : Hp w [] [.blk p3 (by8 g) 25, .row A16 l.length c17 24 32 (by8 (flat8 l)), .blk p41 (by8 (rootV l)) 25, .row A50 ((wayV l (i : Int)).length) c51 25 32 (by8 (flat8 (wayV l (i : Int))))] w378 := H380.sub (List.Sublist.cons_cons _ (List.Sublist.cons_cons _ (List.Sublist.cons_cons _ (List.Sublist.cons_cons _ (List.Sublist.cons _ (List.Sublist.cons _ (List.Sublist.slnil)))))))
                refine GO.made r379 [1, 9, 11, 12, 91, 92, 94] [(1, .int .i64 (i : Int)), (9, .slice A50 ((wayV l (i : Int)).length) c51), (11, pt p89 0), (12, pt p377 0), (91, .agg (by8 (l.getD i [])).toArray), (92, .agg (by8 g).toArray), (94, .int .i64 (l.length : Int))] (by kernel_rfl) (by kernel_rfl) hS381 ?_
                refine GP.perm [0, 1, 2, 3, 4, 5, 6, 7, 8] (by kernel_rfl) rfl ?_
                rw [← hXd_]
                exact st112 _ p89 p377 H380
            have st111 : ∀ (wD_ : World) (p94 : Nat), Hp w [] [.blk p3 (by8 g) 25, .row A16 l.length c17 24 32 (by8 (flat8 l)), .blk p41 (by8 (rootV l)) 25, .row A50 ((wayV l (i : Int)).length) c51 25 32 (by8 (flat8 (wayV l (i : Int)))), .blk p94 (by8 (List.replicate 32 0)) 24] wD_ → Xd_ [0, 1, 2, 3, 4, 5, 6, 8] [(1, .int .i64 (i : Int)), (9, .slice A50 ((wayV l (i : Int)).length) c51), (12, pt p94 0), (91, .agg (by8 (l.getD i [])).toArray), (92, .agg (by8 g).toArray), (94, .int .i64 (l.length : Int))] wD_ := by
              intro wD_ p94 HD_
              rw [hXd_]
              have hS382 : Hp w [] [.blk p3 (by8 g) 25, .row A16 l.length c17 24 32 (by8 (flat8 l)), .blk p41 (by8 (rootV l)) 25, .row A50 ((wayV l (i : Int)).length) c51 25 32 (by8 (flat8 (wayV l (i : Int))))] wD_ := HD_.sub (List.Sublist.cons_cons _ (List.Sublist.cons_cons _ (List.Sublist.cons_cons _ (List.Sublist.cons_cons _ (List.Sublist.cons _ (List.Sublist.slnil))))))
              refine GP.all1 7 (by kernel_rfl) ?_
              · skip
                have hS383 : Hp w [] [.blk p3 (by8 g) 25, .row A16 l.length c17 24 32 (by8 (flat8 l)), .blk p41 (by8 (rootV l)) 25, .row A50 ((wayV l (i : Int)).length) c51 25 32 (by8 (flat8 (wayV l (i : Int))))] wD_ := HD_.sub (List.Sublist.cons_cons _ (List.Sublist.cons_cons _ (List.Sublist.cons_cons _ (List.Sublist.cons_cons _ (List.Sublist.cons _ (List.Sublist.slnil))))))
                obtain ⟨p384, w385, r386, H387⟩ := HD_.alloc (P := Try.prog) 24 (by8 (List.replicate 32 0)) (by kernel_rfl)
                have H387 : Hp w [] [.blk p3 (by8 g) 25, .row A16 l.length c17 24 32 (by8 (flat8 l)), .blk p41 (by8 (rootV l)) 25, .row A50 ((wayV l (i : Int)).length) c51 25 32 (by8 (flat8 (wayV l (i : Int)))), .blk p94 (by8 (List.replicate 32 0)) 24, .blk p384 (by8 (List.replicate 32 0)) 24] w385 := H387
                have hS388 : Hp w [] [.blk p3 (by8 g) 25, .row A16 l.length c17 24 32 (by8 (flat8 l)), .blk p41 (by8 (rootV l)) 25, .row A50 ((wayV l (i : Int)).length) c51 25 32 (by8 (flat8 (wayV l (i : Int))))] w385 := H387.sub (List.Sublist.cons_cons _ (List.Sublist.cons_cons _ (List.Sublist.cons_cons _ (List.Sublist.cons_cons _ (List.Sublist.cons _ (List.Sublist.cons _ (List.Sublist.slnil)))))))
                refine GO.made r386 [1, 9, 11, 12, 91, 92, 94] [(1, .int .i64 (i : Int)), (9, .slice A50 ((wayV l (i : Int)).length) c51), (11, pt p384 0), (12, pt p94 0), (91, .agg (by8 (l.getD i [])).toArray), (92, .agg (by8 g).toArray), (94, .int .i64 (l.length : Int))] (by kernel_rfl) (by kernel_rfl) hS388 ?_
                have H389 := (Hp.reorder (L' := [.blk p3 (by8 g) 25, .row A16 l.length c17 24 32 (by8 (flat8 l)), .blk p41 (by8 (rootV l)) 25, .row A50 ((wayV l (i : Int)).length) c51 25 32 (by8 (flat8 (wayV l (i : Int)))), .blk p384 (by8 (List.replicate 32 0)) 24, .blk p94 (by8 (List.replicate 32 0)) 24]) H387 (List.Perm.cons _ (List.Perm.cons _ (List.Perm.cons _ (List.Perm.cons _ (List.Perm.trans (List.Perm.swap _ _ _) (List.Perm.refl _)))))))
                refine GP.perm [0, 1, 2, 3, 4, 5, 6, 7, 8] (by kernel_rfl) rfl ?_
                rw [← hXd_]
                exact st112 _ p384 p94 H389
            have st109 : ∀ (wD_ : World), Hp w [] [.blk p3 (by8 g) 25, .row A16 l.length c17 24 32 (by8 (flat8 l)), .blk p41 (by8 (rootV l)) 25, .row A50 ((wayV l (i : Int)).length) c51 25 32 (by8 (flat8 (wayV l (i : Int))))] wD_ → Xd_ [0, 1, 2, 3, 4, 5, 6] [(1, .int .i64 (i : Int)), (9, .slice A50 ((wayV l (i : Int)).length) c51), (91, .agg (by8 (l.getD i [])).toArray), (92, .agg (by8 g).toArray), (94, .int .i64 (l.length : Int))] wD_ := by
              intro wD_ HD_
              rw [hXd_]
              have hS390 : Hp w [] [.blk p3 (by8 g) 25, .row A16 l.length c17 24 32 (by8 (flat8 l)), .blk p41 (by8 (rootV l)) 25, .row A50 ((wayV l (i : Int)).length) c51 25 32 (by8 (flat8 (wayV l (i : Int))))] wD_ := HD_.sub (List.Sublist.cons_cons _ (List.Sublist.cons_cons _ (List.Sublist.cons_cons _ (List.Sublist.cons_cons _ (List.Sublist.slnil)))))
              refine GP.all2 7 8 (by kernel_rfl) ?_ ?_
              · skip
                have hS391 : Hp w [] [.blk p3 (by8 g) 25, .row A16 l.length c17 24 32 (by8 (flat8 l)), .blk p41 (by8 (rootV l)) 25, .row A50 ((wayV l (i : Int)).length) c51 25 32 (by8 (flat8 (wayV l (i : Int))))] wD_ := HD_.sub (List.Sublist.cons_cons _ (List.Sublist.cons_cons _ (List.Sublist.cons_cons _ (List.Sublist.cons_cons _ (List.Sublist.slnil)))))
                obtain ⟨p392, w393, r394, H395⟩ := HD_.alloc (P := Try.prog) 24 (by8 (List.replicate 32 0)) (by kernel_rfl)
                have H395 : Hp w [] [.blk p3 (by8 g) 25, .row A16 l.length c17 24 32 (by8 (flat8 l)), .blk p41 (by8 (rootV l)) 25, .row A50 ((wayV l (i : Int)).length) c51 25 32 (by8 (flat8 (wayV l (i : Int)))), .blk p392 (by8 (List.replicate 32 0)) 24] w393 := H395
                have hS396 : Hp w [] [.blk p3 (by8 g) 25, .row A16 l.length c17 24 32 (by8 (flat8 l)), .blk p41 (by8 (rootV l)) 25, .row A50 ((wayV l (i : Int)).length) c51 25 32 (by8 (flat8 (wayV l (i : Int))))] w393 := H395.sub (List.Sublist.cons_cons _ (List.Sublist.cons_cons _ (List.Sublist.cons_cons _ (List.Sublist.cons_cons _ (List.Sublist.cons _ (List.Sublist.slnil))))))
                refine GO.made r394 [1, 9, 11, 91, 92, 94] [(1, .int .i64 (i : Int)), (9, .slice A50 ((wayV l (i : Int)).length) c51), (11, pt p392 0), (91, .agg (by8 (l.getD i [])).toArray), (92, .agg (by8 g).toArray), (94, .int .i64 (l.length : Int))] (by kernel_rfl) (by kernel_rfl) hS396 ?_
                refine GP.perm [0, 1, 2, 3, 4, 5, 6, 7] (by kernel_rfl) rfl ?_
                rw [← hXd_]
                exact st110 _ p392 H395
              · skip
                have hS397 : Hp w [] [.blk p3 (by8 g) 25, .row A16 l.length c17 24 32 (by8 (flat8 l)), .blk p41 (by8 (rootV l)) 25, .row A50 ((wayV l (i : Int)).length) c51 25 32 (by8 (flat8 (wayV l (i : Int))))] wD_ := HD_.sub (List.Sublist.cons_cons _ (List.Sublist.cons_cons _ (List.Sublist.cons_cons _ (List.Sublist.cons_cons _ (List.Sublist.slnil)))))
                obtain ⟨p398, w399, r400, H401⟩ := HD_.alloc (P := Try.prog) 24 (by8 (List.replicate 32 0)) (by kernel_rfl)
                have H401 : Hp w [] [.blk p3 (by8 g) 25, .row A16 l.length c17 24 32 (by8 (flat8 l)), .blk p41 (by8 (rootV l)) 25, .row A50 ((wayV l (i : Int)).length) c51 25 32 (by8 (flat8 (wayV l (i : Int)))), .blk p398 (by8 (List.replicate 32 0)) 24] w399 := H401
                have hS402 : Hp w [] [.blk p3 (by8 g) 25, .row A16 l.length c17 24 32 (by8 (flat8 l)), .blk p41 (by8 (rootV l)) 25, .row A50 ((wayV l (i : Int)).length) c51 25 32 (by8 (flat8 (wayV l (i : Int))))] w399 := H401.sub (List.Sublist.cons_cons _ (List.Sublist.cons_cons _ (List.Sublist.cons_cons _ (List.Sublist.cons_cons _ (List.Sublist.cons _ (List.Sublist.slnil))))))
                refine GO.made r400 [1, 9, 12, 91, 92, 94] [(1, .int .i64 (i : Int)), (9, .slice A50 ((wayV l (i : Int)).length) c51), (12, pt p398 0), (91, .agg (by8 (l.getD i [])).toArray), (92, .agg (by8 g).toArray), (94, .int .i64 (l.length : Int))] (by kernel_rfl) (by kernel_rfl) hS402 ?_
                refine GP.perm [0, 1, 2, 3, 4, 5, 6, 8] (by kernel_rfl) rfl ?_
                rw [← hXd_]
                exact st111 _ p398 H401
            exact st109 _ H86
        · skip
          have hb76f := of_decide_eq_true hb76
          refine GP.run [7, 8, 9, 10, 11, 12, 13, 14, 15] [0, 1, 5, 9, 87] [(0, .slice A l.length c), (1, .int .i64 (i : Int)), (5, pt p3 0), (9, .slice A50 ((wayV l (i : Int)).length) c51), (87, .bool true)] [0, 1, 2, 3, 4, 5, 6, 7, 8, 9, 10, 11, 12, 13, 14, 15] (by kernel_rfl) rfl hS75 ?_
          refine GP.k (by kernel_rfl) hK72 (fun _ _ h => h) ?_
          refine G.yes rfl ?_
          refine G.seqK fun K403 hK404 => ?_
          refine G.region ?_
          refine GL.run (j := 1) 1 [6] [(6, .bool true)] (by kernel_rfl) rfl ?_
          refine GL.k rfl hK404 (fun _ _ h => h) ?_
          refine G.ret ?_
          intro F_ hF_ hM_
          refine hRet _ _ (bodyPost_1 rfl (RV.tmp rfl) ?_ F_ hF_ hM_)
          exact ⟨rfl, H73.sub (List.nil_sublist _)⟩
    · skip
      have hb15f := of_decide_eq_true hb15
      refine GL.run (j := 18) 5 [0, 1, 5, 33] [(0, .slice A l.length c), (1, .int .i64 z), (5, pt p3 0), (33, .bool true)] (by kernel_rfl) rfl ?_
      refine GL.k rfl hK10 (fun _ _ h => h) ?_
      refine G.yes rfl ?_
      refine G.seqK fun K405 hK406 => ?_
      refine G.region ?_
      refine GL.call (j := 1) (lives_calls w11) (by kernel_rfl) rfl (fun e_ w407 hR => ?_)
      obtain ⟨rfl, H409⟩ := hR
      have H408 : Hp w [] [.blk p3 (by8 g) 25] w407 := H12.callNil H409
      refine ⟨_, rfl, [34], [(34, .bool true)], by kernel_rfl, ?_⟩
      refine GL.run (j := 2) 1 [6] [(6, .bool true)] (by kernel_rfl) rfl ?_
      refine GL.k rfl hK406 (fun _ _ h => h) ?_
      refine G.ret ?_
      intro F_ hF_ hM_
      refine hRet _ _ (bodyPost_1 rfl (RV.tmp rfl) ?_ F_ hF_ hM_)
      exact ⟨rfl, H408.sub (List.nil_sublist _)⟩
  · skip
    have hb14f := eq_of_beq hb14
    refine GL.run (j := 18) 10 [0, 1, 5, 33] [(0, .slice A l.length c), (1, .int .i64 z), (5, pt p3 0), (33, .bool true)] (by kernel_rfl) rfl ?_
    refine GL.k rfl hK10 (fun _ _ h => h) ?_
    refine G.yes rfl ?_
    refine G.seqK fun K410 hK411 => ?_
    refine G.region ?_
    refine GL.call (j := 1) (lives_calls w11) (by kernel_rfl) rfl (fun e_ w412 hR => ?_)
    obtain ⟨rfl, H414⟩ := hR
    have H413 : Hp w [] [.blk p3 (by8 g) 25] w412 := H12.callNil H414
    refine ⟨_, rfl, [34], [(34, .bool true)], by kernel_rfl, ?_⟩
    refine GL.run (j := 2) 1 [6] [(6, .bool true)] (by kernel_rfl) rfl ?_
    refine GL.k rfl hK411 (fun _ _ h => h) ?_
    refine G.ret ?_
    intro F_ hF_ hM_
    refine hRet _ _ (bodyPost_1 rfl (RV.tmp rfl) ?_ F_ hF_ hM_)
    exact ⟨rfl, H413.sub (List.nil_sublist _)⟩
end Go.Proofs.Ytgmggjnoegelgaa
namespace Go.Proofs.Ytgmggjnoegelgaa
open Go.ChangeShapes Go.WideShapes Go.ChangeAt Go.RowKit
open Go.ChangeMaps (open_string shut_string)
set_option linter.unusedVariables false
theorem merkleProves_own : ownKnob Try.prog.godebug = none := by kernel_rfl
theorem merkleProves_laidOut : laidOutB Try.prog = true := by kernel_rfl
set_option maxRecDepth 100000 in
theorem merkleProves_lifted (os : Os) (started : os.Started) (H : Type) (enc : TypeId × Value → H) :
    ReturnsInHanded {} Try.checked os 6 .any (Rows.merkleProvesSpec.pre6 enc Try.prog Try.f6 Rows.merkleProvesRow.domain false) (Rows.merkleProvesSpec.post enc Try.prog Try.f6 false true false false) := by
  refine returnsInHanded_of_change (C := Try.checked) merkleProves_own started (by kernel_rfl) Try.func6
    (ChangeSpec.witness6 (enc := enc) (C := Try.checked) false ⟨#[], #[.slice none 0 0, .int .i64 0, .agg #[.int .u8 0, .int .u8 0, .int .u8 0, .int .u8 0, .int .u8 0, .int .u8 0, .int .u8 0, .int .u8 0, .int .u8 0, .int .u8 0, .int .u8 0, .int .u8 0, .int .u8 0, .int .u8 0, .int .u8 0, .int .u8 0, .int .u8 0, .int .u8 0, .int .u8 0, .int .u8 0, .int .u8 0, .int .u8 0, .int .u8 0, .int .u8 0, .int .u8 0, .int .u8 0, .int .u8 0, .int .u8 0, .int .u8 0, .int .u8 0, .int .u8 0, .int .u8 0]], []⟩ 12 (by kernel_rfl) (by kernel_rfl) (by kernel_rfl) (by kernel_rfl)) ?_
  intro W base args ds gs before hval0 hW hcnd _
  have hval : ∀ (j : Nat) t v, Try.f6.params[j]? = some t → args[j]? = some v → Value.okWide Try.prog W .any base t v := hval0
  have hW' := hW
  obtain ⟨p, q, hA0, hV, rfl, hfz, hnd⟩ := hW
  have hA : DataW.TrodAll enc Try.prog W 0 (fun _ => true) true Try.f6.params.toList args.toList ds p := hA0
  rw [Try.params6] at hA hval
  obtain ⟨v0, vs0, d0, ds0, p0, q0, hargs, rfl, rfl, h0, r0⟩ := trodAll_cons hA
  obtain ⟨v1, vs1, d1, ds1, p1, q1, rfl, rfl, rfl, h1, r1⟩ := trodAll_cons r0
  obtain ⟨v2, vs2, d2, ds2, p2, q2, rfl, rfl, rfl, h2, r2⟩ := trodAll_cons r1
  obtain ⟨rfl, rfl, rfl⟩ := trodAll_nil r2
  obtain rfl : args = #[v0, v1, v2] := by cases args; simp_all
  obtain ⟨rfl, rfl⟩ := trodVars_none hV
  have k0 := h0
  have lt0 : ∀ x ∈ p0, x.block < W.heap.size := by obtain ⟨m, hm⟩ := k0; exact DataW.trod_lt m _ _ _ hm
  have k1 := h1
  have lt1 : ∀ x ∈ p1, x.block < W.heap.size := by obtain ⟨m, hm⟩ := k1; exact DataW.trod_lt m _ _ _ hm
  have k2 := h2
  have lt2 : ∀ x ∈ p2, x.block < W.heap.size := by obtain ⟨m, hm⟩ := k2; exact DataW.trod_lt m _ _ _ hm
  obtain ⟨a0, len0, cap0, rfl⟩ := okWide_slice Try.underlying22 (hval 0 22 _ rfl rfl)
  obtain ⟨fu0, hfz0⟩ := h0
  obtain ⟨A0, l0, c0, hcs0, rd0, ok0, hnc0, hcm0⟩ := open_hashes Try.underlying22 (by kernel_rfl) (by kernel_rfl) (by kernel_rfl) Try.underlying5 hfz0
  simp [Value.cells] at hcs0
  obtain ⟨rfl, rfl, rfl⟩ := hcs0
  obtain ⟨n1, rfl, wf1⟩ := open_int' Try.underlying3 (hval 1 3 _ rfl rfl) h1
  obtain ⟨cs2, rfl, hl2⟩ := open_agg (by kernel_rfl) (show Try.prog.cellsOf 25 = 32 by kernel_rfl) (hval 2 25 _ rfl rfl)
  obtain ⟨fu2, hf2⟩ := h2
  have lv2 := open_leaves 1 (by rw [List.toList_toArray] at *; exact hl2.trans (show Try.prog.cellsOf 25 = 32 by kernel_rfl).symm) (by kernel_rfl) hf2 (ls := (List.range 32).map fun i => (i, 5)) (by kernel_rfl)
  obtain ⟨f2, rfl⟩ := bytes_of 32 hl2 (fun i hi => (lv2 (i, 5) (by simpa using hi)).u8 Try.underlying5)
  rw [show (List.range 32).map (fun i => Value.int .u8 ((f2 i).toNat : Int)) = [.int .u8 ((f2 0).toNat : Int), .int .u8 ((f2 1).toNat : Int), .int .u8 ((f2 2).toNat : Int), .int .u8 ((f2 3).toNat : Int), .int .u8 ((f2 4).toNat : Int), .int .u8 ((f2 5).toNat : Int), .int .u8 ((f2 6).toNat : Int), .int .u8 ((f2 7).toNat : Int), .int .u8 ((f2 8).toNat : Int), .int .u8 ((f2 9).toNat : Int), .int .u8 ((f2 10).toNat : Int), .int .u8 ((f2 11).toNat : Int), .int .u8 ((f2 12).toNat : Int), .int .u8 ((f2 13).toNat : Int), .int .u8 ((f2 14).toNat : Int), .int .u8 ((f2 15).toNat : Int), .int .u8 ((f2 16).toNat : Int), .int .u8 ((f2 17).toNat : Int), .int .u8 ((f2 18).toNat : Int), .int .u8 ((f2 19).toNat : Int), .int .u8 ((f2 20).toNat : Int), .int .u8 ((f2 21).toNat : Int), .int .u8 ((f2 22).toNat : Int), .int .u8 ((f2 23).toNat : Int), .int .u8 ((f2 24).toNat : Int), .int .u8 ((f2 25).toNat : Int), .int .u8 ((f2 26).toNat : Int), .int .u8 ((f2 27).toNat : Int), .int .u8 ((f2 28).toNat : Int), .int .u8 ((f2 29).toNat : Int), .int .u8 ((f2 30).toNat : Int), .int .u8 ((f2 31).toNat : Int)] from rfl]
  clear hA0 hval0
  refine (MerkleProves_calls a0 cap0 l0 n1 ((List.range 32).map f2) (by simp) W rd0 ok0 hnc0).mono fun e W' ⟨he, hh⟩ => ?_
  have bel := hh.below
  subst he
  exact ⟨_, rfl, _, _, _, [], _, [], hW', trodAll_mk1 (shut_bool Try.underlying4 _), (trodAll_cons_mk (Below.trod merkleProves_laidOut (by kernel_rfl) (of_decide_eq_true (by kernel_rfl)) k0 bel lt0) (trodAll_cons_mk (Below.trod merkleProves_laidOut (by kernel_rfl) (of_decide_eq_true (by kernel_rfl)) k1 bel lt1) (trodAll_cons_mk (Below.trod merkleProves_laidOut (by kernel_rfl) (of_decide_eq_true (by kernel_rfl)) k2 bel lt2) trodAll_mk0))), rfl, bel.frame _, fun h => by cases h⟩
theorem merkleProves_over : Rows.merkleProvesRow.holds Try.pinned (OpenSpec.ofChange Rows.merkleProvesSpec) :=
  OpenClaim.holds_of_wide 6 Try.f6 rfl rfl rfl rfl rfl rfl rfl ⟨rfl, rfl, rfl, rfl, rfl⟩ rfl rfl rfl rfl rfl (by kernel_rfl) Try.func6 (by kernel_rfl)
    (of_decide_eq_true (by kernel_rfl)) (by unfold Func.isWrapper; first | (rw [if_pos (by decide +kernel)]; kernel_rfl) | (rw [if_neg (by decide +kernel)]; exact ⟨rfl, rfl⟩))
    (fun os started H enc _ => merkleProves_lifted os started H enc)
theorem merkleProves_proved : Rows.MerkleProvesSaid := merkleProves_over
end Go.Proofs.Ytgmggjnoegelgaa
