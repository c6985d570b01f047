/- Rows of hashes: root, way. -/
import Derived.Test.YtgmggjnoegelgaaMkA
namespace Go.Proofs.Ytgmggjnoegelgaa
open Go.RowKit
theorem Zero_calls (X : List UInt8) (hX : X.length = 32) (w : World) : Calls Try.prog 10 #[.agg (by8 X).toArray] w fun e w' => e = .returned (.bool (decide (X = (List.replicate 32 0)))) ∧ Hp w [] [] w' := by
  refine calls_G (args := [.agg (by8 X).toArray]) Try.func10 rfl Try.ntmps10 rfl ?_
  intro Q0 hRet hNor hPan
  have H := Hp.start w
  have H : Hp w [] [] w := H
  refine G.seqK fun K1 hK2 => ?_
  refine G.region ?_
  obtain ⟨p3, w4, r5, H6⟩ := H.box (P := Try.prog) 25 (by8 X) (.agg (by8 X).toArray) rfl
  have H6 : Hp w [] [.blk p3 (by8 X) 25] w4 := H6
  refine GL.sem (j := 1) (r5) [1] [(1, pt p3 0)] (by kernel_rfl) (by kernel_rfl) rfl ?_
  refine GL.run (j := 2) 1 [1] [(1, pt p3 0)] (by kernel_rfl) rfl ?_
  refine GL.k rfl hK2 (fun _ _ h => h) ?_
  refine G.seqK fun K7 hK8 => ?_
  refine G.region ?_
  refine GL.sem (j := 1) (H6.ldA (o := 0) (ty := 25) (m := 32) (sub := by8 X) 0 rfl (by kernel_rfl) (sub_whole (by rw [by8_length, hX])) (by rw [by8_length, hX])) [3] [(3, .agg (by8 X).toArray)] (by kernel_rfl) (by kernel_rfl) rfl ?_
  refine GL.run (j := 2) 1 [3, 4] [(3, .agg (by8 X).toArray), (4, .agg (by8 (List.replicate 32 0)).toArray)] (by kernel_rfl) rfl ?_
  refine GL.sem (j := 3) (run_by8_eql (P := Try.prog) (t := 25) (n := 32) (x := (.tmp 3)) (y := (.tmp 4)) (by kernel_rfl) X (List.replicate 32 0) (by rw [hX]) (by rw [List.length_replicate]) _) [5] [(5, .bool (decide (X = (List.replicate 32 0))))] (by kernel_rfl) (by kernel_rfl) rfl ?_
  refine GL.run (j := 4) 1 [2] [(2, .bool (decide (X = (List.replicate 32 0))))] (by kernel_rfl) rfl ?_
  refine GL.k rfl hK8 (fun _ _ h => h) ?_
  refine G.ret ?_
  intro F_ hF_ hM_
  refine hRet _ _ (bodyPost_1 rfl (RV.tmp rfl) ?_ F_ hF_ hM_)
  exact ⟨rfl, H6.sub (List.nil_sublist _)⟩
theorem chk_ok {n : Nat} (h : chkE (n : Int) = 0) : 0 < n ∧ n ≤ 65536 := by
  unfold chkE leafB at h
  split at h
  · omega
  · split at h
    · rename_i h2
      have := of_decide_eq_true h2
      omega
    · omega
def rootE (l : List (List UInt8)) : Nat := chkE (l.length : Int)
def rootV (l : List (List UInt8)) : List UInt8 := if rootE l = 0 then rootH l else List.replicate 32 0
theorem rootV_length {l : List (List UInt8)} (h : ok32 l) : (rootV l).length = 32 := by
  unfold rootV
  split
  · rename_i h1
    have := chk_ok h1
    exact rootH_length l.length l (Nat.le_refl _) this.1 h
  · rfl
theorem Root_calls (A : Option Addr) (c : Nat) (l : List (List UInt8)) (w : World) (hx : RdS w A (by8 (flat8 l))) (hok : ok32 l) (hc : l.length ≤ c) : Calls Try.prog 8 #[.slice A l.length c] w fun e w' => e = .returned (.tuple #[.agg (by8 (rootV l)).toArray, .int .i64 ((rootE l : Nat) : Int)]) ∧ Hp w [] [] w' := by
  refine calls_G (args := [.slice A l.length c]) Try.func8 rfl Try.ntmps8 rfl ?_
  intro Q0 hRet hNor hPan
  have H := Hp.start w
  have H : Hp w [] [] w := H
  refine G.seqK fun K1 hK2 => ?_
  refine G.region ?_
  obtain ⟨p3, w4, r5, H6⟩ := H.alloc (P := Try.prog) 25 (by8 (List.replicate 32 0)) (by kernel_rfl)
  have H6 : Hp w [] [.blk p3 (by8 (List.replicate 32 0)) 25] w4 := H6
  refine GL.sem (j := 1) (r5) [0, 2] [(0, .slice A l.length c), (2, pt p3 0)] (by kernel_rfl) (by kernel_rfl) rfl ?_
  refine GL.run (j := 2) 1 [0, 2] [(0, .slice A l.length c), (2, pt p3 0)] (by kernel_rfl) rfl ?_
  refine GL.k rfl hK2 (fun _ _ h => h) ?_
  refine G.seqK fun K7 hK8 => ?_
  refine G.seqK fun K9 hK10 => ?_
  refine G.region ?_
  refine GL.run (j := 2) 2 [0, 2, 6] [(0, .slice A l.length c), (2, pt p3 0), (6, .int .i64 (l.length : Int))] (by kernel_rfl) rfl ?_
  refine GL.call (j := 3) (Check_calls (l.length : Int) w4) (by kernel_rfl) rfl (fun e_ w11 hR => ?_)
  obtain ⟨rfl, H13⟩ := hR
  have H12 : Hp w [] [.blk p3 (by8 (List.replicate 32 0)) 25] w11 := H6.callNil H13
  refine ⟨_, rfl, [0, 2, 7], [(0, .slice A l.length c), (2, pt p3 0), (7, .int .i64 (((chkE (l.length : Int)) : Nat) : Int))], by kernel_rfl, ?_⟩
  refine GL.run (j := 4) 1 [0, 2, 4] [(0, .slice A l.length c), (2, pt p3 0), (4, .int .i64 (((chkE (l.length : Int)) : Nat) : Int))] (by kernel_rfl) rfl ?_
  refine GL.k rfl hK10 (fun _ _ h => h) ?_
  refine G.seqK fun K14 hK15 => ?_
  refine G.region ?_
  refine GL.run (j := 2) 2 [0, 2, 4, 9] [(0, .slice A l.length c), (2, pt p3 0), (4, .int .i64 (((chkE (l.length : Int)) : Nat) : Int)), (9, .bool ((((chkE (l.length : Int)) : Nat) : Int) != 0))] (by kernel_rfl) rfl ?_
  refine GL.k rfl hK15 (fun _ _ h => h) ?_
  cases hb16 : ((((chkE (l.length : Int)) : Nat) : Int) != 0)
  · skip
    have hb16f : (((chkE (l.length : Int)) : Nat) : Int) = 0 := bne_eq_false_iff_eq.1 hb16
    have hce : chkE (l.length : Int) = 0 := by omega
    have hlen := chk_ok hce
    refine G.no rfl ?_
    refine G.skipK hK8 (fun _ _ h => h) ?_
    refine G.seqK fun K17 hK18 => ?_
    refine G.block ?_
    refine G.fit [0, 2] (M' := [(0, .slice A l.length c), (2, pt p3 0)]) (by kernel_rfl) ?_
    refine G.loop (X := List (List UInt8) × Option Addr × Nat) (fun ⟨L, A_, c_⟩ => [(0, .slice A_ L.length c_), (2, pt p3 0)]) (fun ⟨L, A_, c_⟩ w_ => (rootH L = rootH l ∧ ok32 L ∧ 0 < L.length ∧ L.length ≤ 65536 ∧ L.length ≤ c_ ∧ RdS w_ A_ (by8 (flat8 L))) ∧ Hp w [] [.blk p3 (by8 (List.replicate 32 0)) 25] w_) (fun ⟨L, A_, c_⟩ => L.length) ⟨l, A, c⟩ [0, 2] (by kernel_rfl) ⟨⟨rfl, hok, by omega, by omega, hc, hx.hp H12⟩, H12⟩ ?_
    rintro ⟨L, A_, c_⟩ w19 ⟨hi20, H21⟩
    refine G.eq (M' := [(0, .slice A_ L.length c_), (2, pt p3 0)]) rfl ?_
    have H21 : Hp w [] [.blk p3 (by8 (List.replicate 32 0)) 25] w19 := H21
    obtain ⟨hroot, hokL, h0L, h16, hcL, hrd⟩ := hi20
    refine G.seqK fun K22 hK23 => ?_
    refine G.seqK fun K24 hK25 => ?_
    refine G.region ?_
    refine GL.run (j := 3) 3 [0, 2, 14] [(0, .slice A_ L.length c_), (2, pt p3 0), (14, .bool (decide (1 < (L.length : Int))))] (by kernel_rfl) rfl ?_
    refine GL.k rfl hK25 (fun _ _ h => h) ?_
    cases hb26 : (decide (1 < (L.length : Int)))
    · skip
      have hb26f := of_decide_eq_false hb26
      refine G.no rfl ?_
      refine G.exitK hK18 (fun _ _ h => h) ?_
      refine G.seqK fun K27 hK28 => ?_
      refine G.region ?_
      refine GL.run (j := 1) 1 [2, 17] [(2, pt p3 0), (17, .slice A_ L.length c_)] (by kernel_rfl) rfl ?_
      refine GL.sem (j := 2) (run_idxRdN (P := Try.prog) (k := .i64) (t := 22) (sz := 32) (A := A_) (len := L.length) (cap := c_) (j := 0) (by kernel_rfl) rfl (hrd) (by rw [by8_length]; exact flat8_length hokL) (by decide) (by omega)) [2, 18] [(2, pt p3 0), (18, .pointer (Option.map (fun x => Addr.add x (0 * 32)) A_))] (by kernel_rfl) (by kernel_rfl) rfl ?_
      refine GL.sem (j := 3) (run_ldRdA (P := Try.prog) (ty := 25) (m := 32) (o := (0 * 32)) (A := A_) (sub := by8 (L.getD 0 [])) (by kernel_rfl) (hrd) (flat8_sub hokL (by omega)) (by rw [by8_length, ok32_at hokL (by omega)]) (by decide)) [2, 19] [(2, pt p3 0), (19, .agg (by8 (L.getD 0 [])).toArray)] (by kernel_rfl) (by kernel_rfl) rfl ?_
      obtain ⟨w29, r30, H31⟩ := H21.stA (P := Try.prog) (o := 0) (vs := by8 (L.getD 0 [])) (ty := 25) (m := 32) 0 rfl (by kernel_rfl) (by rw [by8_length, ok32_at hokL (by omega)]) (Nat.le_of_eq (by rw [Nat.zero_add]; exact ((show (by8 (List.replicate 32 0)).length = 32 from by rw [by8_length]; rfl)).symm)) (by8_one _)
      rw [st_whole (by rw [by8_length]; rfl)] at H31
      have H31 : Hp w [] [.blk p3 (by8 (L.getD 0 [])) 25] w29 := H31
      refine GL.semU (j := 4) r30 [2] [(2, pt p3 0)] (by kernel_rfl) rfl rfl rfl ?_
      refine GL.run (j := 5) 1 [2, 3] [(2, pt p3 0), (3, .int .i64 0)] (by kernel_rfl) rfl ?_
      refine GL.k rfl hK28 (fun _ _ h => h) ?_
      refine G.ret ?_
      intro F_ hF_ hM_
      refine hRet _ _ (bodyPost_2 rfl (RV.cell rfl (H31.ldA (o := 0) (ty := 25) (m := 32) (sub := by8 (L.getD 0 [])) 0 rfl (by kernel_rfl) (sub_whole (by rw [by8_length, ok32_at hokL (by omega)])) (by rw [by8_length, ok32_at hokL (by omega)]))) (RV.tmp rfl) ?_ F_ hF_ hM_)
      have e1 : rootE l = 0 := by unfold rootE; rw [hce]
      have e2 : rootV l = L.getD 0 [] := by unfold rootV; rw [e1, if_pos rfl, ← hroot, rootH_one (by omega)]
      rw [e1, e2]
      exact ⟨rfl, H31.sub (List.nil_sublist _)⟩
    · skip
      have hb26f := of_decide_eq_true hb26
      refine G.yes rfl ?_
      refine G.skipK hK23 (fun _ _ h => h) ?_
      refine G.block ?_
      refine G.region ?_
      refine GL.run (j := 1) 1 [2, 15] [(2, pt p3 0), (15, .slice A_ L.length c_)] (by kernel_rfl) rfl ?_
      refine GL.call (j := 2) (Up_calls A_ c_ L w19 (hrd) hokL (by omega) (by omega)) (by kernel_rfl) rfl (fun e_ w34 hR => ?_)
      obtain ⟨A32, c33, rfl, H36⟩ := hR
      have H35 : Hp w [] [.blk p3 (by8 (List.replicate 32 0)) 25, .row A32 ((upH L).length) c33 25 32 (by8 (flat8 (upH L)))] w34 := H21.callNew H36
      refine ⟨_, rfl, [2, 16], [(2, pt p3 0), (16, .slice A32 ((upH L).length) c33)], by kernel_rfl, ?_⟩
      refine GL.run (j := 3) 1 [0, 2] [(0, .slice A32 ((upH L).length) c33), (2, pt p3 0)] (by kernel_rfl) rfl ?_
      have hr37 := H35.rdRowN 1 rfl
      have hq38 := (H35.rowLe 1 rfl).1
      have hul := upH_length L
      have H39 : Hp w [] [.blk p3 (by8 (List.replicate 32 0)) 25] w34 := H35.sub (List.Sublist.cons_cons _ (List.Sublist.cons _ (List.Sublist.slnil)))
      exact GL.againB ⟨(upH L), A32, c33⟩ [0, 2] rfl (by kernel_rfl) (by show (upH L).length < L.length; omega) ⟨⟨by rw [← rootH_step (by omega)]; exact hroot, ok32_upH L, by omega, by omega, hq38, hr37⟩, H39⟩
  · skip
    have hb16f : (((chkE (l.length : Int)) : Nat) : Int) ≠ 0 := bne_iff_ne.1 hb16
    refine G.yes rfl ?_
    refine G.seqK fun K40 hK41 => ?_
    refine G.region ?_
    refine GL.run (j := 2) 2 [2, 10, 11] [(2, pt p3 0), (10, .agg (by8 (List.replicate 32 0)).toArray), (11, .int .i64 (((chkE (l.length : Int)) : Nat) : Int))] (by kernel_rfl) rfl ?_
    obtain ⟨w42, r43, H44⟩ := H12.stA (P := Try.prog) (o := 0) (vs := by8 (List.replicate 32 0)) (ty := 25) (m := 32) 0 rfl (by kernel_rfl) (by rw [by8_length, List.length_replicate]) (Nat.le_of_eq (by rw [Nat.zero_add]; exact ((show (by8 (List.replicate 32 0)).length = 32 from by rw [by8_length]; rfl)).symm)) (by8_one _)
    rw [st_whole (by rw [by8_length]; rfl)] at H44
    have H44 : Hp w [] [.blk p3 (by8 (List.replicate 32 0)) 25] w42 := H44
    refine GL.semU (j := 3) r43 [2, 11] [(2, pt p3 0), (11, .int .i64 (((chkE (l.length : Int)) : Nat) : Int))] (by kernel_rfl) rfl rfl rfl ?_
    refine GL.run (j := 4) 1 [2, 3] [(2, pt p3 0), (3, .int .i64 (((chkE (l.length : Int)) : Nat) : Int))] (by kernel_rfl) rfl ?_
    refine GL.k rfl hK41 (fun _ _ h => h) ?_
    refine G.ret ?_
    intro F_ hF_ hM_
    refine hRet _ _ (bodyPost_2 rfl (RV.cell rfl (H44.ldA (o := 0) (ty := 25) (m := 32) (sub := by8 (List.replicate 32 0)) 0 rfl (by kernel_rfl) (sub_whole (by rw [by8_length, List.length_replicate])) (by rw [by8_length, List.length_replicate]))) (RV.tmp rfl) ?_ F_ hF_ hM_)
    have e2 : rootV l = (List.replicate 32 0) := by unfold rootV rootE; rw [if_neg (by omega)]
    rw [e2]
    exact ⟨rfl, H44.sub (List.nil_sublist _)⟩
theorem i_xor1 {j : Nat} (h : j < 65536) : Go.bits .xor .i64 (j : Int) 1 = ((if j % 2 = 1 then j - 1 else j + 1 : Nat) : Int) := by
  show IntKind.i64.wrap ((BitVec.ofInt 64 (j : Int) ^^^ BitVec.ofInt 64 1).toNat : Int) = _
  have e1 : (BitVec.ofInt 64 (j : Int)).toNat = j := by
    rw [BitVec.toNat_ofInt]
    omega
  have e2 : (BitVec.ofInt 64 1).toNat = 1 := by decide
  rw [BitVec.toNat_xor, e1, e2]
  have hd : (j ^^^ 1) / 2 = j / 2 := by rw [Nat.xor_div_two]; simp
  have hm : (j ^^^ 1) % 2 = 1 ↔ ¬ (j % 2 = 1) := by rw [Nat.xor_mod_two_eq_one]; simp
  rw [in_i64 (by omega)]
  split <;> omega
def wayE (l : List (List UInt8)) (z : Int) : Nat := if chkE (l.length : Int) = 0 then (if 0 ≤ z ∧ z < l.length then 0 else 1) else chkE (l.length : Int)
def wayV (l : List (List UInt8)) (z : Int) : List (List UInt8) := if wayE l z = 0 then wayH l z.toNat else []
theorem Way_calls (A : Option Addr) (c : Nat) (l : List (List UInt8)) (z : Int) (w : World) (hx : RdS w A (by8 (flat8 l))) (hok : ok32 l) (hc : l.length ≤ c) (hz : -9223372036854775808 ≤ z ∧ z ≤ 9223372036854775807) : Calls Try.prog 9 #[.slice A l.length c, .int .i64 z] w fun e w' => ∃ B d, e = .returned (.tuple #[.slice B (wayV l z).length d, .int .i64 ((wayE l z : Nat) : Int)]) ∧ Hp w [] [.row B (wayV l z).length d 25 32 (by8 (flat8 (wayV l z)))] w' := by
  refine calls_G (args := [.slice A l.length c, .int .i64 z]) Try.func9 rfl Try.ntmps9 rfl ?_
  intro Q0 hRet hNor hPan
  have H := Hp.start w
  have H : Hp w [] [] w := H
  refine G.seqK fun K1 hK2 => ?_
  refine G.region ?_
  refine GL.run (j := 2) 2 [0, 1] [(0, .slice A l.length c), (1, .int .i64 z)] (by kernel_rfl) rfl ?_
  refine GL.k rfl hK2 (fun _ _ h => h) ?_
  refine G.seqK fun K3 hK4 => ?_
  refine G.seqK fun K5 hK6 => ?_
  refine G.region ?_
  refine GL.run (j := 2) 2 [0, 1, 9] [(0, .slice A l.length c), (1, .int .i64 z), (9, .int .i64 (l.length : Int))] (by kernel_rfl) rfl ?_
  refine GL.call (j := 3) (Check_calls (l.length : Int) w) (by kernel_rfl) rfl (fun e_ w7 hR => ?_)
  obtain ⟨rfl, H9⟩ := hR
  have H8 : Hp w [] [] w7 := H.callNil H9
  refine ⟨_, rfl, [0, 1, 10], [(0, .slice A l.length c), (1, .int .i64 z), (10, .int .i64 (((chkE (l.length : Int)) : Nat) : Int))], by kernel_rfl, ?_⟩
  refine GL.run (j := 4) 1 [0, 1, 6] [(0, .slice A l.length c), (1, .int .i64 z), (6, .int .i64 (((chkE (l.length : Int)) : Nat) : Int))] (by kernel_rfl) rfl ?_
  refine GL.k rfl hK6 (fun _ _ h => h) ?_
  refine G.seqK fun K10 hK11 => ?_
  refine G.region ?_
  refine GL.run (j := 2) 2 [0, 1, 6, 12] [(0, .slice A l.length c), (1, .int .i64 z), (6, .int .i64 (((chkE (l.length : Int)) : Nat) : Int)), (12, .bool ((((chkE (l.length : Int)) : Nat) : Int) != 0))] (by kernel_rfl) rfl ?_
  refine GL.k rfl hK11 (fun _ _ h => h) ?_
  cases hb12 : ((((chkE (l.length : Int)) : Nat) : Int) != 0)
  · skip
    have hb12f : (((chkE (l.length : Int)) : Nat) : Int) = 0 := bne_eq_false_iff_eq.1 hb12
    have hce : chkE (l.length : Int) = 0 := by omega
    have hlen := chk_ok hce
    refine G.no rfl ?_
    refine G.skipK hK4 (fun _ _ h => h) ?_
    refine G.seqK fun K13 hK14 => ?_
    refine G.seqK fun K15 hK16 => ?_
    refine G.region ?_
    refine GL.run (j := 3) 3 [0, 1, 16] [(0, .slice A l.length c), (1, .int .i64 z), (16, .bool (decide (z < 0)))] (by kernel_rfl) rfl ?_
    cases hb17 : (decide (z < 0))
    · skip
      have hb17f := of_decide_eq_false hb17
      refine GL.run (j := 8) 5 [0, 1, 21] [(0, .slice A l.length c), (1, .int .i64 z), (21, .bool (decide ((l.length : Int) ≤ z)))] (by kernel_rfl) rfl ?_
      refine GL.k rfl hK16 (fun _ _ h => h) ?_
      cases hb18 : (decide ((l.length : Int) ≤ z))
      · skip
        have hb18f := of_decide_eq_false hb18
        obtain ⟨i, rfl⟩ : ∃ i : Nat, z = (i : Int) := ⟨z.toNat, by omega⟩
        have hil : i < l.length := by omega
        refine G.no rfl ?_
        refine G.skipK hK14 (fun _ _ h => h) ?_
        refine G.seqK fun K19 hK20 => ?_
        refine G.region ?_
        refine GL.run (j := 1) 1 [0, 1, 7] [(0, .slice A l.length c), (1, .int .i64 (i : Int)), (7, .slice none 0 0)] (by kernel_rfl) rfl ?_
        refine GL.k rfl hK20 (fun _ _ h => h) ?_
        refine G.seqK fun K21 hK22 => ?_
        refine G.block ?_
        have H23 := H8.rowNil 25 32
        have H23 : Hp w [] [.row none 0 0 25 32 (by8 (flat8 []))] w7 := H23
        have H24 : Hp w [] [.row none 0 0 25 32 (by8 (flat8 []))] w7 := H23
        refine G.fit [0, 1, 7] (M' := [(0, .slice A l.length c), (1, .int .i64 (i : Int)), (7, .slice none 0 0)]) (by kernel_rfl) ?_
        refine G.loop (X := List (List UInt8) × Option Addr × Nat × List (List UInt8) × Option Addr × Nat × Nat) (fun ⟨L, A_, c_, O, B_, d_, j⟩ => [(0, .slice A_ L.length c_), (1, .int .i64 (j : Int)), (7, .slice B_ O.length d_)]) (fun ⟨L, A_, c_, O, B_, d_, j⟩ w_ => (O ++ wayH L j = wayH l i ∧ ok32 L ∧ 0 < L.length ∧ L.length ≤ 65536 ∧ L.length ≤ c_ ∧ j < L.length ∧ ok32 O ∧ O.length + L.length ≤ 65536 ∧ RdO w_ (ids [.row B_ O.length d_ 25 32 (by8 (flat8 O))]) A_ (by8 (flat8 L))) ∧ Hp w [] [.row B_ O.length d_ 25 32 (by8 (flat8 O))] w_) (fun ⟨L, A_, c_, O, B_, d_, j⟩ => L.length) ⟨l, A, c, [], none, 0, i⟩ [0, 1, 7] (by kernel_rfl) ⟨⟨rfl, hok, by omega, by omega, hc, by omega, ok32_nil, by simp; omega, RdO.mid (A' := [.row none 0 0 25 32 (by8 (flat8 []))]) (B' := []) (RdO.of hx) H24⟩, H24⟩ ?_
        rintro ⟨L, A_, c_, O, B_, d_, j⟩ w25 ⟨hi26, H27⟩
        refine G.eq (M' := [(0, .slice A_ L.length c_), (1, .int .i64 (j : Int)), (7, .slice B_ O.length d_)]) rfl ?_
        have H27 : Hp w [] [.row B_ O.length d_ 25 32 (by8 (flat8 O))] w25 := H27
        obtain ⟨hway, hokL, h0L, h16, hcL, hjL, hokO, hOl, hrd⟩ := hi26
        have H28 := Hp.startL (A := [.row B_ O.length d_ 25 32 (by8 (flat8 O))]) (B := []) H27
        have H28 : Hp w25 (ids [.row B_ O.length d_ 25 32 (by8 (flat8 O))]) [.row B_ O.length d_ 25 32 (by8 (flat8 O))] w25 := H28
        refine G.seqK fun K29 hK30 => ?_
        refine G.seqK fun K31 hK32 => ?_
        refine G.region ?_
        refine GL.run (j := 3) 3 [0, 1, 7, 24] [(0, .slice A_ L.length c_), (1, .int .i64 (j : Int)), (7, .slice B_ O.length d_), (24, .bool (decide (1 < (L.length : Int))))] (by kernel_rfl) rfl ?_
        refine GL.k rfl hK32 (fun _ _ h => h) ?_
        cases hb33 : (decide (1 < (L.length : Int)))
        · skip
          have hb33f := of_decide_eq_false hb33
          refine G.no rfl ?_
          refine G.exitK hK22 (fun _ _ h => h) ?_
          refine G.seqK fun K34 hK35 => ?_
          refine G.region ?_
          refine GL.run (j := 3) 3 [4, 5] [(4, .slice B_ O.length d_), (5, .int .i64 0)] (by kernel_rfl) rfl ?_
          refine GL.k rfl hK35 (fun _ _ h => h) ?_
          refine G.ret ?_
          intro F_ hF_ hM_
          refine hRet _ _ (bodyPost_2 rfl (RV.tmp rfl) (RV.tmp rfl) ?_ F_ hF_ hM_)
          have HF := Hp.callL (A := [.row B_ O.length d_ 25 32 (by8 (flat8 O))]) (B := []) H27 H28
          have ew : O = wayH l i := by rw [← hway, wayH_one (by omega), List.append_nil]
          rw [ew] at HF ⊢
          have e1 : wayE l (i : Int) = 0 := by unfold wayE; rw [if_pos hce, if_pos (by omega)]
          have e3 : wayV l (i : Int) = wayH l i := by unfold wayV; rw [if_pos e1]; simp
          rw [e1, e3]
          exact ⟨_, _, rfl, HF⟩
        · skip
          have hb33f := of_decide_eq_true hb33
          refine G.yes rfl ?_
          refine G.skipK hK30 (fun _ _ h => h) ?_
          refine G.seqK fun K36 hK37 => ?_
          refine G.block ?_
          refine G.region ?_
          refine GL.run (j := 8) 8 [0, 1, 29, 30, 36] [(0, .slice A_ L.length c_), (1, .int .i64 (j : Int)), (29, .slice B_ O.length d_), (30, .slice A_ L.length c_), (36, .int .i64 (if (IntKind.i64.wrap ((L.length : Int) - 1)) < (Go.bits .xor .i64 (j : Int) 1) then (IntKind.i64.wrap ((L.length : Int) - 1)) else (Go.bits .xor .i64 (j : Int) 1)))] (by kernel_rfl) rfl ?_
          have e38 : (Go.bits .xor .i64 (j : Int) 1) = (((if j % 2 = 1 then j - 1 else j + 1) : Nat) : Int) := i_xor1 (by omega)
          have e39 : (IntKind.i64.wrap ((L.length : Int) - 1)) = (((L.length - 1) : Nat) : Int) := by rw [in_i64 (by omega)]; omega
          have e40 : (if (((L.length - 1) : Nat) : Int) < (((if j % 2 = 1 then j - 1 else j + 1) : Nat) : Int) then (((L.length - 1) : Nat) : Int) else (((if j % 2 = 1 then j - 1 else j + 1) : Nat) : Int)) = (((sib j L.length) : Nat) : Int) := min_int (if j % 2 = 1 then j - 1 else j + 1) (L.length - 1)
          refine GL.eq (M' := [(0, .slice A_ L.length c_), (1, .int .i64 (j : Int)), (29, .slice B_ O.length d_), (30, .slice A_ L.length c_), (36, .int .i64 (((sib j L.length) : Nat) : Int))]) (by rw [e38, e39, e40]) ?_
          clear e38 e39 e40
          refine GL.sem (j := 9) (run_idxRdN (P := Try.prog) (k := .i64) (t := 22) (sz := 32) (A := A_) (len := L.length) (cap := c_) (j := (sib j L.length)) (by kernel_rfl) rfl (hrd.hp H28) (by rw [by8_length]; exact flat8_length hokL) (by decide) (by first | omega | (unfold sib; omega))) [0, 1, 29, 37] [(0, .slice A_ L.length c_), (1, .int .i64 (j : Int)), (29, .slice B_ O.length d_), (37, .pointer (Option.map (fun x => Addr.add x ((sib j L.length) * 32)) A_))] (by kernel_rfl) (by kernel_rfl) rfl ?_
          refine GL.sem (j := 10) (run_ldRdA (P := Try.prog) (ty := 25) (m := 32) (o := ((sib j L.length) * 32)) (A := A_) (sub := by8 (L.getD (sib j L.length) [])) (by kernel_rfl) (hrd.hp H28) (flat8_sub hokL (by first | omega | (unfold sib; omega))) (by rw [by8_length, ok32_at hokL (by first | omega | (unfold sib; omega))]) (by decide)) [0, 1, 29, 38] [(0, .slice A_ L.length c_), (1, .int .i64 (j : Int)), (29, .slice B_ O.length d_), (38, .agg (by8 (L.getD (sib j L.length) [])).toArray)] (by kernel_rfl) (by kernel_rfl) rfl ?_
          obtain ⟨p41, w42, r43, H44⟩ := H28.madeRow (P := Try.prog) (Instr.buildSlice 22 1 #[(0, .agg (by8 (L.getD (sib j L.length) [])).toArray)]) (fun b_ => .slice (some ⟨b_, 0, none⟩) 1 1) (by8 (L.getD (sib j L.length) [])) 25 1 1 32 (built1_22 (L.getD (sib j L.length) []) (by rw [ok32_at hokL (by first | omega | (unfold sib; omega))])) (by decide) (by decide) (by rw [by8_length, ok32_at hokL (by first | omega | (unfold sib; omega))])
          rw [List.take_of_length_le (show (by8 (L.getD (sib j L.length) [])).length ≤ 1 * 32 from Nat.le_of_eq (by rw [by8_length, ok32_at hokL (by first | omega | (unfold sib; omega))]))] at H44
          have H44 : Hp w25 (ids [.row B_ O.length d_ 25 32 (by8 (flat8 O))]) [.row B_ O.length d_ 25 32 (by8 (flat8 O)), .row (some ⟨p41, 0, none⟩) 1 1 25 32 (by8 (L.getD (sib j L.length) []))] w42 := H44
          refine GL.sem (j := 11) (r43) [0, 1, 29, 39] [(0, .slice A_ L.length c_), (1, .int .i64 (j : Int)), (29, .slice B_ O.length d_), (39, .slice (some ⟨p41, 0, none⟩) 1 1)] (by kernel_rfl) (by kernel_rfl) rfl ?_
          obtain ⟨A45, c46, w47, r48, H49⟩ := H44.append (P := Try.prog) (e := 25) (sz := 32) (by_ := 32) (n := O.length) (c := d_) (m := 1) (d := 1) (t := 22) (ty := 22) (xs := by8 (flat8 O)) (news := by8 (L.getD (sib j L.length) [])) 0 rfl (by kernel_rfl) (H44.rdRowN 1 rfl) (by rw [by8_length, ok32_at hokL (by first | omega | (unfold sib; omega))]) (by8_one _) (by omega) (by simp only [maxLen]; omega)
          rw [← by8_append] at H49
          have H49 : Hp w25 (ids [.row B_ O.length d_ 25 32 (by8 (flat8 O))]) [.row A45 (O.length + 1) c46 25 32 (by8 ((flat8 O) ++ (L.getD (sib j L.length) []))), .row (some ⟨p41, 0, none⟩) 1 1 25 32 (by8 (L.getD (sib j L.length) []))] w47 := H49
          refine GL.sem (j := 12) (r48) [0, 1, 40] [(0, .slice A_ L.length c_), (1, .int .i64 (j : Int)), (40, .slice A45 (O.length + 1) c46)] (by kernel_rfl) (by kernel_rfl) rfl ?_
          refine GL.run (j := 13) 1 [0, 1, 7] [(0, .slice A_ L.length c_), (1, .int .i64 (j : Int)), (7, .slice A45 (O.length + 1) c46)] (by kernel_rfl) rfl ?_
          refine GL.k rfl hK37 (fun _ _ h => h) ?_
          refine G.region ?_
          refine GL.run (j := 1) 1 [1, 7, 25] [(1, .int .i64 (j : Int)), (7, .slice A45 (O.length + 1) c46), (25, .slice A_ L.length c_)] (by kernel_rfl) rfl ?_
          refine GL.call (j := 2) (Up_calls A_ c_ L w47 (hrd.hp H49) hokL (by omega) (by omega)) (by kernel_rfl) rfl (fun e_ w52 hR => ?_)
          obtain ⟨A50, c51, rfl, H54⟩ := hR
          have H53 : Hp w25 (ids [.row B_ O.length d_ 25 32 (by8 (flat8 O))]) [.row A45 (O.length + 1) c46 25 32 (by8 ((flat8 O) ++ (L.getD (sib j L.length) []))), .row (some ⟨p41, 0, none⟩) 1 1 25 32 (by8 (L.getD (sib j L.length) [])), .row A50 ((upH L).length) c51 25 32 (by8 (flat8 (upH L)))] w52 := H49.callNew H54
          refine ⟨_, rfl, [1, 7, 26], [(1, .int .i64 (j : Int)), (7, .slice A45 (O.length + 1) c46), (26, .slice A50 ((upH L).length) c51)], by kernel_rfl, ?_⟩
          refine GL.run (j := 6) 4 [0, 1, 7] [(0, .slice A50 ((upH L).length) c51), (1, .int .i64 (IntKind.i64.wrap (Int.tdiv (j : Int) 2))), (7, .slice A45 (O.length + 1) c46)] (by kernel_rfl) rfl ?_
          have e55 : (IntKind.i64.wrap (Int.tdiv (j : Int) 2)) = (((j / 2) : Nat) : Int) := i_quo (a := j) 2 (by omega)
          refine GL.eq (M' := [(0, .slice A50 ((upH L).length) c51), (1, .int .i64 (((j / 2) : Nat) : Int)), (7, .slice A45 (O.length + 1) c46)]) (by rw [e55]) ?_
          clear e55
          have hq56 := (H53.rowLe 2 rfl).1
          have hul := upH_length L
          have H60 : Hp w25 (ids [.row B_ O.length d_ 25 32 (by8 (flat8 O))]) [.row A45 (O.length + 1) c46 25 32 (by8 ((flat8 O) ++ (L.getD (sib j L.length) []))), .row A50 ((upH L).length) c51 25 32 (by8 (flat8 (upH L)))] w52 := H53.sub (List.Sublist.cons_cons _ (List.Sublist.cons _ (List.Sublist.cons_cons _ (List.Sublist.slnil))))
          have H58 : Hp w25 (ids [.row B_ O.length d_ 25 32 (by8 (flat8 O))]) [.row A45 ((O ++ [(L.getD (sib j L.length) [])]).length) c46 25 32 (by8 (flat8 (O ++ [(L.getD (sib j L.length) [])]))), .row A50 ((upH L).length) c51 25 32 (by8 (flat8 (upH L)))] w52 := by rw [flat8_snoc, List.length_append]; exact H60
          have H57 : Hp w [] [.row A45 ((O ++ [(L.getD (sib j L.length) [])]).length) c46 25 32 (by8 (flat8 (O ++ [(L.getD (sib j L.length) [])]))), .row A50 ((upH L).length) c51 25 32 (by8 (flat8 (upH L)))] w52 := Hp.callL (A := [.row B_ O.length d_ 25 32 (by8 (flat8 O))]) (B := []) H27 H58
          have hz59 := RdO.rowN (A' := [.row A45 ((O ++ [(L.getD (sib j L.length) [])]).length) c46 25 32 (by8 (flat8 (O ++ [(L.getD (sib j L.length) [])])))]) (B' := [.row A50 ((upH L).length) c51 25 32 (by8 (flat8 (upH L)))]) H57 0 rfl
          refine GL.fit (ts := [0, 1, 7]) (M' := [(0, .slice A50 ((upH L).length) c51), (1, .int .i64 (((j / 2) : Nat) : Int)), (7, .slice A45 (O.length + 1) c46)]) (by kernel_rfl) ?_
          refine GL.eq (M' := [(0, .slice A50 ((upH L).length) c51), (1, .int .i64 (((j / 2) : Nat) : Int)), (7, .slice A45 ((O ++ [(L.getD (sib j L.length) [])]).length) c46)]) (by rw [List.length_append]; rfl) ?_
          exact GL.again ⟨(upH L), A50, c51, (O ++ [(L.getD (sib j L.length) [])]), A45, c46, (j / 2)⟩ [0, 1, 7] rfl (by kernel_rfl) (by show (upH L).length < L.length; omega) ⟨⟨by rw [List.append_assoc, List.cons_append, List.nil_append, ← wayH_step (by omega)]; exact hway, ok32_upH L, by omega, by omega, hq56, by omega, ok32_snoc hokO (ok32_at hokL (by unfold sib; omega)), by rw [List.length_append, List.length_singleton]; omega, hz59⟩, (H57.sub (List.Sublist.cons_cons _ (List.Sublist.cons _ (List.Sublist.slnil))))⟩
      · skip
        have hb18f := of_decide_eq_true hb18
        refine G.yes rfl ?_
        refine G.seqK fun K61 hK62 => ?_
        refine G.region ?_
        refine GL.run (j := 2) 2 [4, 5] [(4, .slice none 0 0), (5, .int .i64 1)] (by kernel_rfl) rfl ?_
        refine GL.k rfl hK62 (fun _ _ h => h) ?_
        refine G.ret ?_
        intro F_ hF_ hM_
        refine hRet _ _ (bodyPost_2 rfl (RV.tmp rfl) (RV.tmp rfl) ?_ F_ hF_ hM_)
        have e2 : wayE l z ≠ 0 := by unfold wayE; rw [if_pos (by omega), if_neg (by omega)]; decide
        have e1 : wayE l z = 1 := by unfold wayE; rw [if_pos (by omega), if_neg (by omega)]
        have e3 : wayV l z = [] := by unfold wayV; rw [if_neg e2]
        rw [e3, e1]
        exact ⟨none, 0, rfl, (H8.sub (List.nil_sublist _)).rowNil 25 32⟩
    · skip
      have hb17f := of_decide_eq_true hb17
      refine GL.run (j := 8) 5 [0, 1, 21] [(0, .slice A l.length c), (1, .int .i64 z), (21, .bool true)] (by kernel_rfl) rfl ?_
      refine GL.k rfl hK16 (fun _ _ h => h) ?_
      refine G.yes rfl ?_
      refine G.seqK fun K63 hK64 => ?_
      refine G.region ?_
      refine GL.run (j := 2) 2 [4, 5] [(4, .slice none 0 0), (5, .int .i64 1)] (by kernel_rfl) rfl ?_
      refine GL.k rfl hK64 (fun _ _ h => h) ?_
      refine G.ret ?_
      intro F_ hF_ hM_
      refine hRet _ _ (bodyPost_2 rfl (RV.tmp rfl) (RV.tmp rfl) ?_ F_ hF_ hM_)
      have e2 : wayE l z ≠ 0 := by unfold wayE; rw [if_pos (by omega), if_neg (by omega)]; decide
      have e1 : wayE l z = 1 := by unfold wayE; rw [if_pos (by omega), if_neg (by omega)]
      have e3 : wayV l z = [] := by unfold wayV; rw [if_neg e2]
      rw [e3, e1]
      exact ⟨none, 0, rfl, (H8.sub (List.nil_sublist _)).rowNil 25 32⟩
  · skip
    have hb12f : (((chkE (l.length : Int)) : Nat) : Int) ≠ 0 := bne_iff_ne.1 hb12
    refine G.yes rfl ?_
    refine G.seqK fun K65 hK66 => ?_
    refine G.region ?_
    refine GL.run (j := 3) 3 [4, 5] [(4, .slice none 0 0), (5, .int .i64 (((chkE (l.length : Int)) : Nat) : Int))] (by kernel_rfl) rfl ?_
    refine GL.k rfl hK66 (fun _ _ h => h) ?_
    refine G.ret ?_
    intro F_ hF_ hM_
    refine hRet _ _ (bodyPost_2 rfl (RV.tmp rfl) (RV.tmp rfl) ?_ F_ hF_ hM_)
    have e2 : wayE l z ≠ 0 := by unfold wayE; rw [if_neg (by omega)]; omega
    have e1 : wayE l z = (chkE (l.length : Int)) := by unfold wayE; rw [if_neg (by omega)]
    have e3 : wayV l z = [] := by unfold wayV; rw [if_neg e2]
    rw [e3, e1]
    exact ⟨none, 0, rfl, (H8.sub (List.nil_sublist _)).rowNil 25 32⟩
end Go.Proofs.Ytgmggjnoegelgaa
