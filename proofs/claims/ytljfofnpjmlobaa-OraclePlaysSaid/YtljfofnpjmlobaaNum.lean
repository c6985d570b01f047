/- The document's numbers: what each function answers. -/
import Derived.Test.YtljfofnpjmlobaaWideD
import Derived.Test.YtljfofnpjmlobaaNb
namespace Go.Proofs.Ytljfofnpjmlobaa
open Go.RowKit
theorem trim_calls (ds : List Nat) (n : Nat) (hn : n = ds.length) (A : Option Addr) (c : Nat) (w : World) (hr : RdS w A (dg ds)) (hok : ok16 ds) (hc : n ≤ c) (hb : n ≤ 1099511627776) : Calls Try.prog 33 #[.slice A n c] w fun e w' => e = .returned (.slice A (ndg (val ds)) c) ∧ Hp w [] [] w' := by
  subst hn
  refine calls_G (args := [.slice A ds.length c]) Try.func33 rfl Try.ntmps33 rfl ?_
  intro Q0 hRet hNor hPan
  have H := Hp.start w
  have H : Hp w [] [] w := H
  refine G.seqK fun K1 hK2 => ?_
  refine G.region ?_
  refine GL.run (j := 1) 1 [0] [(0, .slice A ds.length c)] (by kernel_rfl) rfl ?_
  refine GL.k rfl hK2 (fun _ _ h => h) ?_
  refine G.seqK fun K3 hK4 => ?_
  refine G.block ?_
  refine G.fit [0] (M' := [(0, .slice A ds.length c)]) (by kernel_rfl) ?_
  refine G.loop (X := Nat) (fun m => [(0, .slice A m c)]) (fun m w_ => (m ≤ ds.length ∧ val (ds.take m) = val ds) ∧ Hp w [] [] w_) (fun m => m) ds.length [0] (by kernel_rfl) ⟨⟨Nat.le_refl _, by rw [List.take_length]⟩, H⟩ ?_
  rintro m w5 ⟨hi6, H7⟩
  refine G.eq (M' := [(0, .slice A m c)]) rfl ?_
  have H7 : Hp w [] [] w5 := H7
  obtain ⟨hm, hv⟩ := hi6
  refine G.seqK fun K8 hK9 => ?_
  refine G.seqK fun K10 hK11 => ?_
  refine G.region ?_
  refine GL.run (j := 4) 4 [0, 6] [(0, .slice A m c), (6, .bool (decide (0 < (m : Int))))] (by kernel_rfl) rfl ?_
  cases hb12 : (decide (0 < (m : Int)))
  · skip
    have hb12f := of_decide_eq_false hb12
    have hlast : m = 0 ∨ ∃ d, ds[m - 1]? = some d ∧ d ≠ 0 := .inl (by omega)
    refine GL.run (j := 12) 8 [0, 14] [(0, .slice A m c), (14, .bool false)] (by kernel_rfl) rfl ?_
    refine GL.k rfl hK11 (fun _ _ h => h) ?_
    refine G.no rfl ?_
    refine G.exitK hK4 (fun _ _ h => h) ?_
    refine G.seqK fun K13 hK14 => ?_
    refine G.region ?_
    refine GL.run (j := 2) 2 [2] [(2, .slice A m c)] (by kernel_rfl) rfl ?_
    refine GL.k rfl hK14 (fun _ _ h => h) ?_
    refine G.ret ?_
    intro F_ hF_ hM_
    refine hRet _ _ (bodyPost_1 rfl (RV.tmp rfl) ?_ F_ hF_ hM_)
    obtain ⟨e1, e2⟩ := trimmed hok hm hv hlast
    rw [e2]
    exact ⟨rfl, H7.sub (List.nil_sublist _)⟩
  · skip
    have hb12f := of_decide_eq_true hb12
    refine GL.run (j := 8) 4 [0, 6, 7, 10] [(0, .slice A m c), (6, .bool true), (7, .slice A m c), (10, .int .i64 (IntKind.i64.wrap ((m : Int) - 1)))] (by kernel_rfl) rfl ?_
    have e15 : (IntKind.i64.wrap ((m : Int) - 1)) = ((m - 1 : Nat) : Int) := by rw [in_i64 (by omega)]; omega
    refine GL.eq (M' := [(0, .slice A m c), (6, .bool true), (7, .slice A m c), (10, .int .i64 ((m - 1 : Nat) : Int))]) (by rw [e15]) ?_
    clear e15
    refine GL.sem (j := 9) (run_idxRd (P := Try.prog) (k := .i64) (t := 52) (A := A) (len := m) (cap := c) (j := m - 1) (by kernel_rfl) rfl ((hr.hp H7).takeD m) (by first | exact dg_length _ | rw [dg_length]; first | rfl | assumption | (symm; assumption) | (simp; done) | (rw [List.length_take]; omega) | omega) (by omega)) [0, 6, 11] [(0, .slice A m c), (6, .bool true), (11, .pointer (Option.map (fun x => Addr.add x (m - 1)) A))] (by kernel_rfl) (by kernel_rfl) rfl ?_
    obtain ⟨d16, hd17⟩ : ∃ d : Nat, ((ds.take m))[m - 1]? = some d := ⟨_, List.getElem?_eq_getElem (by rw [List.length_take]; omega)⟩
    have hdm : ds[m - 1]? = some d16 := by have := hd17; rwa [List.getElem?_take_of_lt (by omega)] at this
    refine GL.sem (j := 10) (run_ldRd (P := Try.prog) (ty := 22) (A := A) (j := m - 1) (v := .int .u64 (d16 : Int)) (by kernel_rfl) ((hr.hp H7).takeD m) (dg_at hd17)) [0, 6, 12] [(0, .slice A m c), (6, .bool true), (12, .int .u64 (d16 : Int))] (by kernel_rfl) (by kernel_rfl) rfl ?_
    refine GL.run (j := 12) 2 [0, 14] [(0, .slice A m c), (14, .bool ((d16 : Int) == 0))] (by kernel_rfl) rfl ?_
    refine GL.k rfl hK11 (fun _ _ h => h) ?_
    cases hb18 : ((d16 : Int) == 0)
    · skip
      have hb18f := ne_of_beq_false hb18
      have hlast : m = 0 ∨ ∃ d, ds[m - 1]? = some d ∧ d ≠ 0 := .inr ⟨_, hdm, by omega⟩
      refine G.no rfl ?_
      refine G.exitK hK4 (fun _ _ h => h) ?_
      refine G.seqK fun K19 hK20 => ?_
      refine G.region ?_
      refine GL.run (j := 2) 2 [2] [(2, .slice A m c)] (by kernel_rfl) rfl ?_
      refine GL.k rfl hK20 (fun _ _ h => h) ?_
      refine G.ret ?_
      intro F_ hF_ hM_
      refine hRet _ _ (bodyPost_1 rfl (RV.tmp rfl) ?_ F_ hF_ hM_)
      obtain ⟨e1, e2⟩ := trimmed hok hm hv hlast
      rw [e2]
      exact ⟨rfl, H7.sub (List.nil_sublist _)⟩
    · skip
      have hb18f := eq_of_beq hb18
      have hd0 : d16 = 0 := by omega
      refine G.yes rfl ?_
      refine G.skipK hK9 (fun _ _ h => h) ?_
      refine G.block ?_
      refine G.region ?_
      refine GL.run (j := 4) 4 [15, 18] [(15, .slice A m c), (18, .int .i64 (IntKind.i64.wrap ((m : Int) - 1)))] (by kernel_rfl) rfl ?_
      have e21 : (IntKind.i64.wrap ((m : Int) - 1)) = ((m - 1 : Nat) : Int) := by rw [in_i64 (by omega)]; omega
      refine GL.eq (M' := [(15, .slice A m c), (18, .int .i64 ((m - 1 : Nat) : Int))]) (by rw [e21]) ?_
      clear e21
      refine GL.sem (j := 5) (run_sliceSl0 (P := Try.prog) (lo := none) (hi := some (.int .i64 ((m - 1 : Nat) : Int))) (t := 52) (len := m) (cap := c) (A := A) (h := m - 1) (by kernel_rfl) (Or.inl ⟨rfl, rfl⟩) (Or.inr ⟨_, _, rfl, rfl⟩) (by omega)) [19] [(19, .slice A (m - 1) c)] (by kernel_rfl) (by kernel_rfl) rfl ?_
      refine GL.run (j := 6) 1 [0] [(0, .slice A (m - 1) c)] (by kernel_rfl) rfl ?_
      exact GL.againB (m - 1) [0] rfl (by kernel_rfl) (by show (m - 1) < m; omega) ⟨⟨by omega, by rw [← hv]; have := val_take hdm; rw [show m - 1 + 1 = m from by omega, hd0, Nat.mul_zero, Nat.add_zero] at this; exact this.symm⟩, H7⟩
theorem digit_calls (a i : Nat) (A : Option Addr) (c : Nat) (w : World) (hr : RdS w A (dg (digs a))) : Calls Try.prog 23 #[.slice A (ndg a) c, .int .i64 (i : Int)] w fun e w' => e = .returned (.int .u64 ((dgt a i : Nat) : Int)) ∧ Hp w [] [] w' := by
  refine calls_G (args := [.slice A (ndg a) c, .int .i64 (i : Int)]) Try.func23 rfl Try.ntmps23 rfl ?_
  intro Q0 hRet hNor hPan
  have H := Hp.start w
  have H : Hp w [] [] w := H
  refine G.seqK fun K1 hK2 => ?_
  refine G.region ?_
  refine GL.run (j := 1) 1 [0, 1] [(0, .slice A (ndg a) c), (1, .int .i64 (i : Int))] (by kernel_rfl) rfl ?_
  refine GL.k rfl hK2 (fun _ _ h => h) ?_
  refine G.seqK fun K3 hK4 => ?_
  refine G.seqK fun K5 hK6 => ?_
  refine G.region ?_
  refine GL.run (j := 4) 4 [0, 1, 8] [(0, .slice A (ndg a) c), (1, .int .i64 (i : Int)), (8, .bool (decide ((i : Int) < (((ndg a) : Nat) : Int))))] (by kernel_rfl) rfl ?_
  refine GL.k rfl hK6 (fun _ _ h => h) ?_
  cases hb7 : (decide ((i : Int) < (((ndg a) : Nat) : Int)))
  · skip
    have hb7f := of_decide_eq_false hb7
    refine G.no rfl ?_
    refine G.skipK hK4 (fun _ _ h => h) ?_
    refine G.seqK fun K8 hK9 => ?_
    refine G.region ?_
    refine GL.run (j := 1) 1 [4] [(4, .int .u64 0)] (by kernel_rfl) rfl ?_
    refine GL.k rfl hK9 (fun _ _ h => h) ?_
    refine G.ret ?_
    intro F_ hF_ hM_
    refine hRet _ _ (bodyPost_1 rfl (RV.tmp rfl) ?_ F_ hF_ hM_)
    rw [dgt_zero (by omega)]
    exact ⟨rfl, H.sub (List.nil_sublist _)⟩
  · skip
    have hb7f := of_decide_eq_true hb7
    refine G.yes rfl ?_
    refine G.seqK fun K10 hK11 => ?_
    refine G.region ?_
    refine GL.run (j := 2) 2 [9, 10] [(9, .slice A (ndg a) c), (10, .int .i64 (i : Int))] (by kernel_rfl) rfl ?_
    refine GL.sem (j := 3) (run_idxRd (P := Try.prog) (k := .i64) (t := 52) (A := A) (len := (ndg a)) (cap := c) (j := i) (by kernel_rfl) rfl (hr.hp H) (dg_digs _) (by omega)) [11] [(11, .pointer (Option.map (fun x => Addr.add x i) A))] (by kernel_rfl) (by kernel_rfl) rfl ?_
    refine GL.sem (j := 4) (run_ldRd (P := Try.prog) (ty := 22) (A := A) (j := i) (v := .int .u64 ((dgt a i) : Int)) (by kernel_rfl) (hr.hp H) (dg_at (digs_get (by omega)))) [12] [(12, .int .u64 ((dgt a i) : Int))] (by kernel_rfl) (by kernel_rfl) rfl ?_
    refine GL.run (j := 5) 1 [4] [(4, .int .u64 ((dgt a i) : Int))] (by kernel_rfl) rfl ?_
    refine GL.k rfl hK11 (fun _ _ h => h) ?_
    refine G.ret ?_
    intro F_ hF_ hM_
    refine hRet _ _ (bodyPost_1 rfl (RV.tmp rfl) ?_ F_ hF_ hM_)
    exact ⟨rfl, H.sub (List.nil_sublist _)⟩
set_option maxHeartbeats 2000000 in
theorem Of_calls_n (x : Nat) (hx : x < K4) (w : World) : Calls Try.prog 32 #[wv x] w fun e w' => ∃ A c, e = .returned ((.slice A (ndg x) c)) ∧ Hp w [] [.row A (ndg x) c 22 1 (dg (digs x))] w' := by
  refine calls_G (args := [wv x]) Try.func32 rfl Try.ntmps32 rfl ?_
  intro Q0 hRet hNor hPan
  have H := Hp.start w
  have H : Hp w [] [] w := H
  refine G.seqK fun K1 hK2 => ?_
  refine G.region ?_
  obtain ⟨p3, w4, r5, H6⟩ := H.box (P := Try.prog) 54 [.int .u64 (wd x 0 : Int), .int .u64 (wd x 1 : Int), .int .u64 (wd x 2 : Int), .int .u64 (wd x 3 : Int)] (wv x) rfl
  have H6 : Hp w [] [.blk p3 [.int .u64 (wd x 0 : Int), .int .u64 (wd x 1 : Int), .int .u64 (wd x 2 : Int), .int .u64 (wd x 3 : Int)] 54] w4 := H6
  refine GL.sem (j := 1) (r5) [1] [(1, pt p3 0)] (by kernel_rfl) (by kernel_rfl) rfl ?_
  refine GL.run (j := 2) 1 [1] [(1, pt p3 0)] (by kernel_rfl) rfl ?_
  refine GL.k rfl hK2 (fun _ _ h => h) ?_
  refine G.seqK fun K7 hK8 => ?_
  refine G.region ?_
  obtain ⟨p9, w10, r11, H12⟩ := H6.madeRow (P := Try.prog) (Instr.buildSlice 52 0 #[]) (fun b_ => .slice (some ⟨b_, 0, none⟩) 0 0) [] 22 0 0 1 (by kernel_rfl) (by decide) (by decide) rfl
  have H12 : Hp w [] [.blk p3 [.int .u64 (wd x 0 : Int), .int .u64 (wd x 1 : Int), .int .u64 (wd x 2 : Int), .int .u64 (wd x 3 : Int)] 54, .row (some ⟨p9, 0, none⟩) 0 0 22 1 (dg [])] w10 := H12
  refine GL.sem (j := 1) (r11) [1, 7] [(1, pt p3 0), (7, .slice (some ⟨p9, 0, none⟩) 0 0)] (by kernel_rfl) (by kernel_rfl) rfl ?_
  refine GL.run (j := 2) 1 [1, 3] [(1, pt p3 0), (3, .slice (some ⟨p9, 0, none⟩) 0 0)] (by kernel_rfl) rfl ?_
  refine GL.k rfl hK8 (fun _ _ h => h) ?_
  refine G.seqK fun K13 hK14 => ?_
  refine G.seqK fun K15 hK16 => ?_
  refine G.region ?_
  refine GL.sem (j := 1) (H12.ldA (o := 0) (ty := 54) (m := 4) (sub := [.int .u64 (wd x 0 : Int), .int .u64 (wd x 1 : Int), .int .u64 (wd x 2 : Int), .int .u64 (wd x 3 : Int)]) 0 rfl (by kernel_rfl) rfl rfl) [3, 8] [(3, .slice (some ⟨p9, 0, none⟩) 0 0), (8, wv x)] (by kernel_rfl) (by kernel_rfl) rfl ?_
  refine GL.run (j := 2) 1 [3, 8, 9] [(3, .slice (some ⟨p9, 0, none⟩) 0 0), (8, wv x), (9, .int .i64 0)] (by kernel_rfl) rfl ?_
  refine GL.k rfl hK16 (fun _ _ h => h) ?_
  refine G.block ?_
  refine G.unroll 4 ?_
  refine G.seqK fun K17 hK18 => ?_
  refine G.region ?_
  refine GL.run (j := 1) 1 [3, 8, 9, 10] [(3, .slice (some ⟨p9, 0, none⟩) 0 0), (8, wv x), (9, .int .i64 0), (10, .bool true)] (by kernel_rfl) rfl ?_
  refine GL.k rfl hK18 (fun _ _ h => h) ?_
  refine G.seqK fun K19 hK20 => ?_
  refine G.yes rfl ?_
  refine G.skipK hK20 (fun _ _ h => h) ?_
  refine G.seqK fun K21 hK22 => ?_
  refine G.block ?_
  refine G.seqK fun K23 hK24 => ?_
  refine G.region ?_
  refine GL.run (j := 2) 2 [3, 5, 8, 9] [(3, .slice (some ⟨p9, 0, none⟩) 0 0), (5, .int .u64 (wd x 0 : Int)), (8, wv x), (9, .int .i64 0)] (by kernel_rfl) rfl ?_
  refine GL.k rfl hK24 (fun _ _ h => h) ?_
  refine G.seqK fun K25 hK26 => ?_
  refine G.region ?_
  refine GL.run (j := 1) 1 [3, 5, 6, 8, 9] [(3, .slice (some ⟨p9, 0, none⟩) 0 0), (5, .int .u64 (wd x 0 : Int)), (6, .int .i64 0), (8, wv x), (9, .int .i64 0)] (by kernel_rfl) rfl ?_
  refine GL.k rfl hK26 (fun _ _ h => h) ?_
  refine G.block ?_
  refine G.unroll 4 ?_
  refine G.seqK fun K27 hK28 => ?_
  refine G.seqK fun K29 hK30 => ?_
  refine G.region ?_
  refine GL.run (j := 2) 2 [3, 5, 6, 8, 9, 13] [(3, .slice (some ⟨p9, 0, none⟩) 0 0), (5, .int .u64 (wd x 0 : Int)), (6, .int .i64 0), (8, wv x), (9, .int .i64 0), (13, .bool true)] (by kernel_rfl) rfl ?_
  refine GL.k rfl hK30 (fun _ _ h => h) ?_
  refine G.yes rfl ?_
  refine G.skipK hK28 (fun _ _ h => h) ?_
  refine G.seqK fun K31 hK32 => ?_
  refine G.block ?_
  refine G.region ?_
  refine GL.run (j := 6) 6 [5, 6, 8, 9, 16, 21] [(5, .int .u64 (wd x 0 : Int)), (6, .int .i64 0), (8, wv x), (9, .int .i64 0), (16, .slice (some ⟨p9, 0, none⟩) 0 0), (21, .int .u64 (Int.tmod (Int.fdiv (wd x 0 : Int) (2 ^ 0)) 65536))] (by kernel_rfl) rfl ?_
  have e33 : (Int.fdiv (wd x 0 : Int) (2 ^ 0)) = (((wd x 0) / 2 ^ 0 : Nat) : Int) := n_shr _ 0
  have e34 : (Int.tmod (((wd x 0) / 2 ^ 0 : Nat) : Int) 65536) = ((((wd x 0) / 2 ^ 0) % 65536 : Nat) : Int) := n_rem _ 65536
  refine GL.eq (M' := [(5, .int .u64 (wd x 0 : Int)), (6, .int .i64 0), (8, wv x), (9, .int .i64 0), (16, .slice (some ⟨p9, 0, none⟩) 0 0), (21, .int .u64 ((((wd x 0) / 2 ^ 0) % 65536 : Nat) : Int))]) (by rw [e33, e34]) ?_
  clear e33 e34
  obtain ⟨p35, w36, r37, H38⟩ := H12.madeRow (P := Try.prog) (Instr.buildSlice 52 1 #[(0, .int .u64 ((((wd x 0) / 2 ^ 0) % 65536 : Nat) : Int))]) (fun b_ => .slice (some ⟨b_, 0, none⟩) 1 1) [.int .u64 ((((wd x 0) / 2 ^ 0) % 65536 : Nat) : Int)] 22 1 1 1 (by kernel_rfl) (by decide) (by decide) rfl
  have H38 : Hp w [] [.blk p3 [.int .u64 (wd x 0 : Int), .int .u64 (wd x 1 : Int), .int .u64 (wd x 2 : Int), .int .u64 (wd x 3 : Int)] 54, .row (some ⟨p9, 0, none⟩) 0 0 22 1 (dg []), .row (some ⟨p35, 0, none⟩) 1 1 22 1 (dg [((wd x 0) / 2 ^ 0) % 65536])] w36 := H38
  refine GL.sem (j := 7) (r37) [5, 6, 8, 9, 16, 22] [(5, .int .u64 (wd x 0 : Int)), (6, .int .i64 0), (8, wv x), (9, .int .i64 0), (16, .slice (some ⟨p9, 0, none⟩) 0 0), (22, .slice (some ⟨p35, 0, none⟩) 1 1)] (by kernel_rfl) (by kernel_rfl) rfl ?_
  obtain ⟨A39, c40, w41, r42, H43⟩ := H38.append (P := Try.prog) (e := 22) (sz := 1) (by_ := 8) (n := 0) (c := 0) (m := 1) (d := 1) (t := 52) (ty := 52) (xs := dg []) (news := dg [((wd x 0) / 2 ^ 0) % 65536]) 1 rfl (by kernel_rfl) (H38.rdRow 2 rfl) (by simp [dg_length]) (dg_one _) (by omega) (by simp only [maxLen]; omega)
  have H43 : Hp w [] [.blk p3 [.int .u64 (wd x 0 : Int), .int .u64 (wd x 1 : Int), .int .u64 (wd x 2 : Int), .int .u64 (wd x 3 : Int)] 54, .row A39 1 c40 22 1 (dg [((wd x 0) / 2 ^ 0) % 65536]), .row (some ⟨p35, 0, none⟩) 1 1 22 1 (dg [((wd x 0) / 2 ^ 0) % 65536])] w41 := H43
  refine GL.sem (j := 8) (r42) [5, 6, 8, 9, 23] [(5, .int .u64 (wd x 0 : Int)), (6, .int .i64 0), (8, wv x), (9, .int .i64 0), (23, .slice A39 1 c40)] (by kernel_rfl) (by kernel_rfl) rfl ?_
  refine GL.run (j := 9) 1 [3, 5, 6, 8, 9] [(3, .slice A39 1 c40), (5, .int .u64 (wd x 0 : Int)), (6, .int .i64 0), (8, wv x), (9, .int .i64 0)] (by kernel_rfl) rfl ?_
  refine GL.k rfl hK32 (fun _ _ h => h) ?_
  refine G.region ?_
  refine GL.run (j := 3) 3 [3, 5, 6, 8, 9] [(3, .slice A39 1 c40), (5, .int .u64 (wd x 0 : Int)), (6, .int .i64 1), (8, wv x), (9, .int .i64 0)] (by kernel_rfl) rfl ?_
  refine GL.round rfl ?_
  refine G.seqK fun K44 hK45 => ?_
  refine G.seqK fun K46 hK47 => ?_
  refine G.region ?_
  refine GL.run (j := 2) 2 [3, 5, 6, 8, 9, 13] [(3, .slice A39 1 c40), (5, .int .u64 (wd x 0 : Int)), (6, .int .i64 1), (8, wv x), (9, .int .i64 0), (13, .bool true)] (by kernel_rfl) rfl ?_
  refine GL.k rfl hK47 (fun _ _ h => h) ?_
  refine G.yes rfl ?_
  refine G.skipK hK45 (fun _ _ h => h) ?_
  refine G.seqK fun K48 hK49 => ?_
  refine G.block ?_
  refine G.region ?_
  refine GL.run (j := 6) 6 [5, 6, 8, 9, 16, 21] [(5, .int .u64 (wd x 0 : Int)), (6, .int .i64 1), (8, wv x), (9, .int .i64 0), (16, .slice A39 1 c40), (21, .int .u64 (Int.tmod (Int.fdiv (wd x 0 : Int) (2 ^ 16)) 65536))] (by kernel_rfl) rfl ?_
  have e50 : (Int.fdiv (wd x 0 : Int) (2 ^ 16)) = (((wd x 0) / 2 ^ 16 : Nat) : Int) := n_shr _ 16
  have e51 : (Int.tmod (((wd x 0) / 2 ^ 16 : Nat) : Int) 65536) = ((((wd x 0) / 2 ^ 16) % 65536 : Nat) : Int) := n_rem _ 65536
  refine GL.eq (M' := [(5, .int .u64 (wd x 0 : Int)), (6, .int .i64 1), (8, wv x), (9, .int .i64 0), (16, .slice A39 1 c40), (21, .int .u64 ((((wd x 0) / 2 ^ 16) % 65536 : Nat) : Int))]) (by rw [e50, e51]) ?_
  clear e50 e51
  obtain ⟨p52, w53, r54, H55⟩ := H43.madeRow (P := Try.prog) (Instr.buildSlice 52 1 #[(0, .int .u64 ((((wd x 0) / 2 ^ 16) % 65536 : Nat) : Int))]) (fun b_ => .slice (some ⟨b_, 0, none⟩) 1 1) [.int .u64 ((((wd x 0) / 2 ^ 16) % 65536 : Nat) : Int)] 22 1 1 1 (by kernel_rfl) (by decide) (by decide) rfl
  have H55 : Hp w [] [.blk p3 [.int .u64 (wd x 0 : Int), .int .u64 (wd x 1 : Int), .int .u64 (wd x 2 : Int), .int .u64 (wd x 3 : Int)] 54, .row A39 1 c40 22 1 (dg [((wd x 0) / 2 ^ 0) % 65536]), .row (some ⟨p35, 0, none⟩) 1 1 22 1 (dg [((wd x 0) / 2 ^ 0) % 65536]), .row (some ⟨p52, 0, none⟩) 1 1 22 1 (dg [((wd x 0) / 2 ^ 16) % 65536])] w53 := H55
  refine GL.sem (j := 7) (r54) [5, 6, 8, 9, 16, 22] [(5, .int .u64 (wd x 0 : Int)), (6, .int .i64 1), (8, wv x), (9, .int .i64 0), (16, .slice A39 1 c40), (22, .slice (some ⟨p52, 0, none⟩) 1 1)] (by kernel_rfl) (by kernel_rfl) rfl ?_
  obtain ⟨A56, c57, w58, r59, H60⟩ := H55.append (P := Try.prog) (e := 22) (sz := 1) (by_ := 8) (n := 1) (c := c40) (m := 1) (d := 1) (t := 52) (ty := 52) (xs := dg [((wd x 0) / 2 ^ 0) % 65536]) (news := dg [((wd x 0) / 2 ^ 16) % 65536]) 1 rfl (by kernel_rfl) (H55.rdRow 3 rfl) (by simp [dg_length]) (dg_one _) (by omega) (by simp only [maxLen]; omega)
  have H60 : Hp w [] [.blk p3 [.int .u64 (wd x 0 : Int), .int .u64 (wd x 1 : Int), .int .u64 (wd x 2 : Int), .int .u64 (wd x 3 : Int)] 54, .row A56 2 c57 22 1 (dg [((wd x 0) / 2 ^ 0) % 65536, ((wd x 0) / 2 ^ 16) % 65536]), .row (some ⟨p35, 0, none⟩) 1 1 22 1 (dg [((wd x 0) / 2 ^ 0) % 65536]), .row (some ⟨p52, 0, none⟩) 1 1 22 1 (dg [((wd x 0) / 2 ^ 16) % 65536])] w58 := H60
  refine GL.sem (j := 8) (r59) [5, 6, 8, 9, 23] [(5, .int .u64 (wd x 0 : Int)), (6, .int .i64 1), (8, wv x), (9, .int .i64 0), (23, .slice A56 2 c57)] (by kernel_rfl) (by kernel_rfl) rfl ?_
  refine GL.run (j := 9) 1 [3, 5, 6, 8, 9] [(3, .slice A56 2 c57), (5, .int .u64 (wd x 0 : Int)), (6, .int .i64 1), (8, wv x), (9, .int .i64 0)] (by kernel_rfl) rfl ?_
  refine GL.k rfl hK49 (fun _ _ h => h) ?_
  refine G.region ?_
  refine GL.run (j := 3) 3 [3, 5, 6, 8, 9] [(3, .slice A56 2 c57), (5, .int .u64 (wd x 0 : Int)), (6, .int .i64 2), (8, wv x), (9, .int .i64 0)] (by kernel_rfl) rfl ?_
  refine GL.round rfl ?_
  refine G.seqK fun K61 hK62 => ?_
  refine G.seqK fun K63 hK64 => ?_
  refine G.region ?_
  refine GL.run (j := 2) 2 [3, 5, 6, 8, 9, 13] [(3, .slice A56 2 c57), (5, .int .u64 (wd x 0 : Int)), (6, .int .i64 2), (8, wv x), (9, .int .i64 0), (13, .bool true)] (by kernel_rfl) rfl ?_
  refine GL.k rfl hK64 (fun _ _ h => h) ?_
  refine G.yes rfl ?_
  refine G.skipK hK62 (fun _ _ h => h) ?_
  refine G.seqK fun K65 hK66 => ?_
  refine G.block ?_
  refine G.region ?_
  refine GL.run (j := 6) 6 [5, 6, 8, 9, 16, 21] [(5, .int .u64 (wd x 0 : Int)), (6, .int .i64 2), (8, wv x), (9, .int .i64 0), (16, .slice A56 2 c57), (21, .int .u64 (Int.tmod (Int.fdiv (wd x 0 : Int) (2 ^ 32)) 65536))] (by kernel_rfl) rfl ?_
  have e67 : (Int.fdiv (wd x 0 : Int) (2 ^ 32)) = (((wd x 0) / 2 ^ 32 : Nat) : Int) := n_shr _ 32
  have e68 : (Int.tmod (((wd x 0) / 2 ^ 32 : Nat) : Int) 65536) = ((((wd x 0) / 2 ^ 32) % 65536 : Nat) : Int) := n_rem _ 65536
  refine GL.eq (M' := [(5, .int .u64 (wd x 0 : Int)), (6, .int .i64 2), (8, wv x), (9, .int .i64 0), (16, .slice A56 2 c57), (21, .int .u64 ((((wd x 0) / 2 ^ 32) % 65536 : Nat) : Int))]) (by rw [e67, e68]) ?_
  clear e67 e68
  obtain ⟨p69, w70, r71, H72⟩ := H60.madeRow (P := Try.prog) (Instr.buildSlice 52 1 #[(0, .int .u64 ((((wd x 0) / 2 ^ 32) % 65536 : Nat) : Int))]) (fun b_ => .slice (some ⟨b_, 0, none⟩) 1 1) [.int .u64 ((((wd x 0) / 2 ^ 32) % 65536 : Nat) : Int)] 22 1 1 1 (by kernel_rfl) (by decide) (by decide) rfl
  have H72 : Hp w [] [.blk p3 [.int .u64 (wd x 0 : Int), .int .u64 (wd x 1 : Int), .int .u64 (wd x 2 : Int), .int .u64 (wd x 3 : Int)] 54, .row A56 2 c57 22 1 (dg [((wd x 0) / 2 ^ 0) % 65536, ((wd x 0) / 2 ^ 16) % 65536]), .row (some ⟨p35, 0, none⟩) 1 1 22 1 (dg [((wd x 0) / 2 ^ 0) % 65536]), .row (some ⟨p52, 0, none⟩) 1 1 22 1 (dg [((wd x 0) / 2 ^ 16) % 65536]), .row (some ⟨p69, 0, none⟩) 1 1 22 1 (dg [((wd x 0) / 2 ^ 32) % 65536])] w70 := H72
  refine GL.sem (j := 7) (r71) [5, 6, 8, 9, 16, 22] [(5, .int .u64 (wd x 0 : Int)), (6, .int .i64 2), (8, wv x), (9, .int .i64 0), (16, .slice A56 2 c57), (22, .slice (some ⟨p69, 0, none⟩) 1 1)] (by kernel_rfl) (by kernel_rfl) rfl ?_
  obtain ⟨A73, c74, w75, r76, H77⟩ := H72.append (P := Try.prog) (e := 22) (sz := 1) (by_ := 8) (n := 2) (c := c57) (m := 1) (d := 1) (t := 52) (ty := 52) (xs := dg [((wd x 0) / 2 ^ 0) % 65536, ((wd x 0) / 2 ^ 16) % 65536]) (news := dg [((wd x 0) / 2 ^ 32) % 65536]) 1 rfl (by kernel_rfl) (H72.rdRow 4 rfl) (by simp [dg_length]) (dg_one _) (by omega) (by simp only [maxLen]; omega)
  have H77 : Hp w [] [.blk p3 [.int .u64 (wd x 0 : Int), .int .u64 (wd x 1 : Int), .int .u64 (wd x 2 : Int), .int .u64 (wd x 3 : Int)] 54, .row A73 3 c74 22 1 (dg [((wd x 0) / 2 ^ 0) % 65536, ((wd x 0) / 2 ^ 16) % 65536, ((wd x 0) / 2 ^ 32) % 65536]), .row (some ⟨p35, 0, none⟩) 1 1 22 1 (dg [((wd x 0) / 2 ^ 0) % 65536]), .row (some ⟨p52, 0, none⟩) 1 1 22 1 (dg [((wd x 0) / 2 ^ 16) % 65536]), .row (some ⟨p69, 0, none⟩) 1 1 22 1 (dg [((wd x 0) / 2 ^ 32) % 65536])] w75 := H77
  refine GL.sem (j := 8) (r76) [5, 6, 8, 9, 23] [(5, .int .u64 (wd x 0 : Int)), (6, .int .i64 2), (8, wv x), (9, .int .i64 0), (23, .slice A73 3 c74)] (by kernel_rfl) (by kernel_rfl) rfl ?_
  refine GL.run (j := 9) 1 [3, 5, 6, 8, 9] [(3, .slice A73 3 c74), (5, .int .u64 (wd x 0 : Int)), (6, .int .i64 2), (8, wv x), (9, .int .i64 0)] (by kernel_rfl) rfl ?_
  refine GL.k rfl hK66 (fun _ _ h => h) ?_
  refine G.region ?_
  refine GL.run (j := 3) 3 [3, 5, 6, 8, 9] [(3, .slice A73 3 c74), (5, .int .u64 (wd x 0 : Int)), (6, .int .i64 3), (8, wv x), (9, .int .i64 0)] (by kernel_rfl) rfl ?_
  refine GL.round rfl ?_
  refine G.seqK fun K78 hK79 => ?_
  refine G.seqK fun K80 hK81 => ?_
  refine G.region ?_
  refine GL.run (j := 2) 2 [3, 5, 6, 8, 9, 13] [(3, .slice A73 3 c74), (5, .int .u64 (wd x 0 : Int)), (6, .int .i64 3), (8, wv x), (9, .int .i64 0), (13, .bool true)] (by kernel_rfl) rfl ?_
  refine GL.k rfl hK81 (fun _ _ h => h) ?_
  refine G.yes rfl ?_
  refine G.skipK hK79 (fun _ _ h => h) ?_
  refine G.seqK fun K82 hK83 => ?_
  refine G.block ?_
  refine G.region ?_
  refine GL.run (j := 6) 6 [5, 6, 8, 9, 16, 21] [(5, .int .u64 (wd x 0 : Int)), (6, .int .i64 3), (8, wv x), (9, .int .i64 0), (16, .slice A73 3 c74), (21, .int .u64 (Int.tmod (Int.fdiv (wd x 0 : Int) (2 ^ 48)) 65536))] (by kernel_rfl) rfl ?_
  have e84 : (Int.fdiv (wd x 0 : Int) (2 ^ 48)) = (((wd x 0) / 2 ^ 48 : Nat) : Int) := n_shr _ 48
  have e85 : (Int.tmod (((wd x 0) / 2 ^ 48 : Nat) : Int) 65536) = ((((wd x 0) / 2 ^ 48) % 65536 : Nat) : Int) := n_rem _ 65536
  refine GL.eq (M' := [(5, .int .u64 (wd x 0 : Int)), (6, .int .i64 3), (8, wv x), (9, .int .i64 0), (16, .slice A73 3 c74), (21, .int .u64 ((((wd x 0) / 2 ^ 48) % 65536 : Nat) : Int))]) (by rw [e84, e85]) ?_
  clear e84 e85
  obtain ⟨p86, w87, r88, H89⟩ := H77.madeRow (P := Try.prog) (Instr.buildSlice 52 1 #[(0, .int .u64 ((((wd x 0) / 2 ^ 48) % 65536 : Nat) : Int))]) (fun b_ => .slice (some ⟨b_, 0, none⟩) 1 1) [.int .u64 ((((wd x 0) / 2 ^ 48) % 65536 : Nat) : Int)] 22 1 1 1 (by kernel_rfl) (by decide) (by decide) rfl
  have H89 : Hp w [] [.blk p3 [.int .u64 (wd x 0 : Int), .int .u64 (wd x 1 : Int), .int .u64 (wd x 2 : Int), .int .u64 (wd x 3 : Int)] 54, .row A73 3 c74 22 1 (dg [((wd x 0) / 2 ^ 0) % 65536, ((wd x 0) / 2 ^ 16) % 65536, ((wd x 0) / 2 ^ 32) % 65536]), .row (some ⟨p35, 0, none⟩) 1 1 22 1 (dg [((wd x 0) / 2 ^ 0) % 65536]), .row (some ⟨p52, 0, none⟩) 1 1 22 1 (dg [((wd x 0) / 2 ^ 16) % 65536]), .row (some ⟨p69, 0, none⟩) 1 1 22 1 (dg [((wd x 0) / 2 ^ 32) % 65536]), .row (some ⟨p86, 0, none⟩) 1 1 22 1 (dg [((wd x 0) / 2 ^ 48) % 65536])] w87 := H89
  refine GL.sem (j := 7) (r88) [5, 6, 8, 9, 16, 22] [(5, .int .u64 (wd x 0 : Int)), (6, .int .i64 3), (8, wv x), (9, .int .i64 0), (16, .slice A73 3 c74), (22, .slice (some ⟨p86, 0, none⟩) 1 1)] (by kernel_rfl) (by kernel_rfl) rfl ?_
  obtain ⟨A90, c91, w92, r93, H94⟩ := H89.append (P := Try.prog) (e := 22) (sz := 1) (by_ := 8) (n := 3) (c := c74) (m := 1) (d := 1) (t := 52) (ty := 52) (xs := dg [((wd x 0) / 2 ^ 0) % 65536, ((wd x 0) / 2 ^ 16) % 65536, ((wd x 0) / 2 ^ 32) % 65536]) (news := dg [((wd x 0) / 2 ^ 48) % 65536]) 1 rfl (by kernel_rfl) (H89.rdRow 5 rfl) (by simp [dg_length]) (dg_one _) (by omega) (by simp only [maxLen]; omega)
  have H94 : Hp w [] [.blk p3 [.int .u64 (wd x 0 : Int), .int .u64 (wd x 1 : Int), .int .u64 (wd x 2 : Int), .int .u64 (wd x 3 : Int)] 54, .row A90 4 c91 22 1 (dg [((wd x 0) / 2 ^ 0) % 65536, ((wd x 0) / 2 ^ 16) % 65536, ((wd x 0) / 2 ^ 32) % 65536, ((wd x 0) / 2 ^ 48) % 65536]), .row (some ⟨p35, 0, none⟩) 1 1 22 1 (dg [((wd x 0) / 2 ^ 0) % 65536]), .row (some ⟨p52, 0, none⟩) 1 1 22 1 (dg [((wd x 0) / 2 ^ 16) % 65536]), .row (some ⟨p69, 0, none⟩) 1 1 22 1 (dg [((wd x 0) / 2 ^ 32) % 65536]), .row (some ⟨p86, 0, none⟩) 1 1 22 1 (dg [((wd x 0) / 2 ^ 48) % 65536])] w92 := H94
  refine GL.sem (j := 8) (r93) [5, 6, 8, 9, 23] [(5, .int .u64 (wd x 0 : Int)), (6, .int .i64 3), (8, wv x), (9, .int .i64 0), (23, .slice A90 4 c91)] (by kernel_rfl) (by kernel_rfl) rfl ?_
  refine GL.run (j := 9) 1 [3, 5, 6, 8, 9] [(3, .slice A90 4 c91), (5, .int .u64 (wd x 0 : Int)), (6, .int .i64 3), (8, wv x), (9, .int .i64 0)] (by kernel_rfl) rfl ?_
  refine GL.k rfl hK83 (fun _ _ h => h) ?_
  refine G.region ?_
  refine GL.run (j := 3) 3 [3, 5, 6, 8, 9] [(3, .slice A90 4 c91), (5, .int .u64 (wd x 0 : Int)), (6, .int .i64 4), (8, wv x), (9, .int .i64 0)] (by kernel_rfl) rfl ?_
  refine GL.round rfl ?_
  refine G.seqK fun K95 hK96 => ?_
  refine G.seqK fun K97 hK98 => ?_
  refine G.region ?_
  refine GL.run (j := 2) 2 [3, 5, 6, 8, 9, 13] [(3, .slice A90 4 c91), (5, .int .u64 (wd x 0 : Int)), (6, .int .i64 4), (8, wv x), (9, .int .i64 0), (13, .bool false)] (by kernel_rfl) rfl ?_
  refine GL.k rfl hK98 (fun _ _ h => h) ?_
  refine G.no rfl ?_
  refine G.exitK hK22 (fun _ _ h => h) ?_
  refine G.region ?_
  refine GL.run (j := 2) 2 [3, 8, 9] [(3, .slice A90 4 c91), (8, wv x), (9, .int .i64 1)] (by kernel_rfl) rfl ?_
  refine GL.round rfl ?_
  refine G.seqK fun K99 hK100 => ?_
  refine G.region ?_
  refine GL.run (j := 1) 1 [3, 8, 9, 10] [(3, .slice A90 4 c91), (8, wv x), (9, .int .i64 1), (10, .bool true)] (by kernel_rfl) rfl ?_
  refine GL.k rfl hK100 (fun _ _ h => h) ?_
  refine G.seqK fun K101 hK102 => ?_
  refine G.yes rfl ?_
  refine G.skipK hK102 (fun _ _ h => h) ?_
  refine G.seqK fun K103 hK104 => ?_
  refine G.block ?_
  refine G.seqK fun K105 hK106 => ?_
  refine G.region ?_
  refine GL.run (j := 2) 2 [3, 5, 8, 9] [(3, .slice A90 4 c91), (5, .int .u64 (wd x 1 : Int)), (8, wv x), (9, .int .i64 1)] (by kernel_rfl) rfl ?_
  refine GL.k rfl hK106 (fun _ _ h => h) ?_
  refine G.seqK fun K107 hK108 => ?_
  refine G.region ?_
  refine GL.run (j := 1) 1 [3, 5, 6, 8, 9] [(3, .slice A90 4 c91), (5, .int .u64 (wd x 1 : Int)), (6, .int .i64 0), (8, wv x), (9, .int .i64 1)] (by kernel_rfl) rfl ?_
  refine GL.k rfl hK108 (fun _ _ h => h) ?_
  refine G.block ?_
  refine G.unroll 4 ?_
  refine G.seqK fun K109 hK110 => ?_
  refine G.seqK fun K111 hK112 => ?_
  refine G.region ?_
  refine GL.run (j := 2) 2 [3, 5, 6, 8, 9, 13] [(3, .slice A90 4 c91), (5, .int .u64 (wd x 1 : Int)), (6, .int .i64 0), (8, wv x), (9, .int .i64 1), (13, .bool true)] (by kernel_rfl) rfl ?_
  refine GL.k rfl hK112 (fun _ _ h => h) ?_
  refine G.yes rfl ?_
  refine G.skipK hK110 (fun _ _ h => h) ?_
  refine G.seqK fun K113 hK114 => ?_
  refine G.block ?_
  refine G.region ?_
  refine GL.run (j := 6) 6 [5, 6, 8, 9, 16, 21] [(5, .int .u64 (wd x 1 : Int)), (6, .int .i64 0), (8, wv x), (9, .int .i64 1), (16, .slice A90 4 c91), (21, .int .u64 (Int.tmod (Int.fdiv (wd x 1 : Int) (2 ^ 0)) 65536))] (by kernel_rfl) rfl ?_
  have e115 : (Int.fdiv (wd x 1 : Int) (2 ^ 0)) = (((wd x 1) / 2 ^ 0 : Nat) : Int) := n_shr _ 0
  have e116 : (Int.tmod (((wd x 1) / 2 ^ 0 : Nat) : Int) 65536) = ((((wd x 1) / 2 ^ 0) % 65536 : Nat) : Int) := n_rem _ 65536
  refine GL.eq (M' := [(5, .int .u64 (wd x 1 : Int)), (6, .int .i64 0), (8, wv x), (9, .int .i64 1), (16, .slice A90 4 c91), (21, .int .u64 ((((wd x 1) / 2 ^ 0) % 65536 : Nat) : Int))]) (by rw [e115, e116]) ?_
  clear e115 e116
  obtain ⟨p117, w118, r119, H120⟩ := H94.madeRow (P := Try.prog) (Instr.buildSlice 52 1 #[(0, .int .u64 ((((wd x 1) / 2 ^ 0) % 65536 : Nat) : Int))]) (fun b_ => .slice (some ⟨b_, 0, none⟩) 1 1) [.int .u64 ((((wd x 1) / 2 ^ 0) % 65536 : Nat) : Int)] 22 1 1 1 (by kernel_rfl) (by decide) (by decide) rfl
  have H120 : Hp w [] [.blk p3 [.int .u64 (wd x 0 : Int), .int .u64 (wd x 1 : Int), .int .u64 (wd x 2 : Int), .int .u64 (wd x 3 : Int)] 54, .row A90 4 c91 22 1 (dg [((wd x 0) / 2 ^ 0) % 65536, ((wd x 0) / 2 ^ 16) % 65536, ((wd x 0) / 2 ^ 32) % 65536, ((wd x 0) / 2 ^ 48) % 65536]), .row (some ⟨p35, 0, none⟩) 1 1 22 1 (dg [((wd x 0) / 2 ^ 0) % 65536]), .row (some ⟨p52, 0, none⟩) 1 1 22 1 (dg [((wd x 0) / 2 ^ 16) % 65536]), .row (some ⟨p69, 0, none⟩) 1 1 22 1 (dg [((wd x 0) / 2 ^ 32) % 65536]), .row (some ⟨p86, 0, none⟩) 1 1 22 1 (dg [((wd x 0) / 2 ^ 48) % 65536]), .row (some ⟨p117, 0, none⟩) 1 1 22 1 (dg [((wd x 1) / 2 ^ 0) % 65536])] w118 := H120
  refine GL.sem (j := 7) (r119) [5, 6, 8, 9, 16, 22] [(5, .int .u64 (wd x 1 : Int)), (6, .int .i64 0), (8, wv x), (9, .int .i64 1), (16, .slice A90 4 c91), (22, .slice (some ⟨p117, 0, none⟩) 1 1)] (by kernel_rfl) (by kernel_rfl) rfl ?_
  obtain ⟨A121, c122, w123, r124, H125⟩ := H120.append (P := Try.prog) (e := 22) (sz := 1) (by_ := 8) (n := 4) (c := c91) (m := 1) (d := 1) (t := 52) (ty := 52) (xs := dg [((wd x 0) / 2 ^ 0) % 65536, ((wd x 0) / 2 ^ 16) % 65536, ((wd x 0) / 2 ^ 32) % 65536, ((wd x 0) / 2 ^ 48) % 65536]) (news := dg [((wd x 1) / 2 ^ 0) % 65536]) 1 rfl (by kernel_rfl) (H120.rdRow 6 rfl) (by simp [dg_length]) (dg_one _) (by omega) (by simp only [maxLen]; omega)
  have H125 : Hp w [] [.blk p3 [.int .u64 (wd x 0 : Int), .int .u64 (wd x 1 : Int), .int .u64 (wd x 2 : Int), .int .u64 (wd x 3 : Int)] 54, .row A121 5 c122 22 1 (dg [((wd x 0) / 2 ^ 0) % 65536, ((wd x 0) / 2 ^ 16) % 65536, ((wd x 0) / 2 ^ 32) % 65536, ((wd x 0) / 2 ^ 48) % 65536, ((wd x 1) / 2 ^ 0) % 65536]), .row (some ⟨p35, 0, none⟩) 1 1 22 1 (dg [((wd x 0) / 2 ^ 0) % 65536]), .row (some ⟨p52, 0, none⟩) 1 1 22 1 (dg [((wd x 0) / 2 ^ 16) % 65536]), .row (some ⟨p69, 0, none⟩) 1 1 22 1 (dg [((wd x 0) / 2 ^ 32) % 65536]), .row (some ⟨p86, 0, none⟩) 1 1 22 1 (dg [((wd x 0) / 2 ^ 48) % 65536]), .row (some ⟨p117, 0, none⟩) 1 1 22 1 (dg [((wd x 1) / 2 ^ 0) % 65536])] w123 := H125
  refine GL.sem (j := 8) (r124) [5, 6, 8, 9, 23] [(5, .int .u64 (wd x 1 : Int)), (6, .int .i64 0), (8, wv x), (9, .int .i64 1), (23, .slice A121 5 c122)] (by kernel_rfl) (by kernel_rfl) rfl ?_
  refine GL.run (j := 9) 1 [3, 5, 6, 8, 9] [(3, .slice A121 5 c122), (5, .int .u64 (wd x 1 : Int)), (6, .int .i64 0), (8, wv x), (9, .int .i64 1)] (by kernel_rfl) rfl ?_
  refine GL.k rfl hK114 (fun _ _ h => h) ?_
  refine G.region ?_
  refine GL.run (j := 3) 3 [3, 5, 6, 8, 9] [(3, .slice A121 5 c122), (5, .int .u64 (wd x 1 : Int)), (6, .int .i64 1), (8, wv x), (9, .int .i64 1)] (by kernel_rfl) rfl ?_
  refine GL.round rfl ?_
  refine G.seqK fun K126 hK127 => ?_
  refine G.seqK fun K128 hK129 => ?_
  refine G.region ?_
  refine GL.run (j := 2) 2 [3, 5, 6, 8, 9, 13] [(3, .slice A121 5 c122), (5, .int .u64 (wd x 1 : Int)), (6, .int .i64 1), (8, wv x), (9, .int .i64 1), (13, .bool true)] (by kernel_rfl) rfl ?_
  refine GL.k rfl hK129 (fun _ _ h => h) ?_
  refine G.yes rfl ?_
  refine G.skipK hK127 (fun _ _ h => h) ?_
  refine G.seqK fun K130 hK131 => ?_
  refine G.block ?_
  refine G.region ?_
  refine GL.run (j := 6) 6 [5, 6, 8, 9, 16, 21] [(5, .int .u64 (wd x 1 : Int)), (6, .int .i64 1), (8, wv x), (9, .int .i64 1), (16, .slice A121 5 c122), (21, .int .u64 (Int.tmod (Int.fdiv (wd x 1 : Int) (2 ^ 16)) 65536))] (by kernel_rfl) rfl ?_
  have e132 : (Int.fdiv (wd x 1 : Int) (2 ^ 16)) = (((wd x 1) / 2 ^ 16 : Nat) : Int) := n_shr _ 16
  have e133 : (Int.tmod (((wd x 1) / 2 ^ 16 : Nat) : Int) 65536) = ((((wd x 1) / 2 ^ 16) % 65536 : Nat) : Int) := n_rem _ 65536
  refine GL.eq (M' := [(5, .int .u64 (wd x 1 : Int)), (6, .int .i64 1), (8, wv x), (9, .int .i64 1), (16, .slice A121 5 c122), (21, .int .u64 ((((wd x 1) / 2 ^ 16) % 65536 : Nat) : Int))]) (by rw [e132, e133]) ?_
  clear e132 e133
  obtain ⟨p134, w135, r136, H137⟩ := H125.madeRow (P := Try.prog) (Instr.buildSlice 52 1 #[(0, .int .u64 ((((wd x 1) / 2 ^ 16) % 65536 : Nat) : Int))]) (fun b_ => .slice (some ⟨b_, 0, none⟩) 1 1) [.int .u64 ((((wd x 1) / 2 ^ 16) % 65536 : Nat) : Int)] 22 1 1 1 (by kernel_rfl) (by decide) (by decide) rfl
  have H137 : Hp w [] [.blk p3 [.int .u64 (wd x 0 : Int), .int .u64 (wd x 1 : Int), .int .u64 (wd x 2 : Int), .int .u64 (wd x 3 : Int)] 54, .row A121 5 c122 22 1 (dg [((wd x 0) / 2 ^ 0) % 65536, ((wd x 0) / 2 ^ 16) % 65536, ((wd x 0) / 2 ^ 32) % 65536, ((wd x 0) / 2 ^ 48) % 65536, ((wd x 1) / 2 ^ 0) % 65536]), .row (some ⟨p35, 0, none⟩) 1 1 22 1 (dg [((wd x 0) / 2 ^ 0) % 65536]), .row (some ⟨p52, 0, none⟩) 1 1 22 1 (dg [((wd x 0) / 2 ^ 16) % 65536]), .row (some ⟨p69, 0, none⟩) 1 1 22 1 (dg [((wd x 0) / 2 ^ 32) % 65536]), .row (some ⟨p86, 0, none⟩) 1 1 22 1 (dg [((wd x 0) / 2 ^ 48) % 65536]), .row (some ⟨p117, 0, none⟩) 1 1 22 1 (dg [((wd x 1) / 2 ^ 0) % 65536]), .row (some ⟨p134, 0, none⟩) 1 1 22 1 (dg [((wd x 1) / 2 ^ 16) % 65536])] w135 := H137
  refine GL.sem (j := 7) (r136) [5, 6, 8, 9, 16, 22] [(5, .int .u64 (wd x 1 : Int)), (6, .int .i64 1), (8, wv x), (9, .int .i64 1), (16, .slice A121 5 c122), (22, .slice (some ⟨p134, 0, none⟩) 1 1)] (by kernel_rfl) (by kernel_rfl) rfl ?_
  obtain ⟨A138, c139, w140, r141, H142⟩ := H137.append (P := Try.prog) (e := 22) (sz := 1) (by_ := 8) (n := 5) (c := c122) (m := 1) (d := 1) (t := 52) (ty := 52) (xs := dg [((wd x 0) / 2 ^ 0) % 65536, ((wd x 0) / 2 ^ 16) % 65536, ((wd x 0) / 2 ^ 32) % 65536, ((wd x 0) / 2 ^ 48) % 65536, ((wd x 1) / 2 ^ 0) % 65536]) (news := dg [((wd x 1) / 2 ^ 16) % 65536]) 1 rfl (by kernel_rfl) (H137.rdRow 7 rfl) (by simp [dg_length]) (dg_one _) (by omega) (by simp only [maxLen]; omega)
  have H142 : Hp w [] [.blk p3 [.int .u64 (wd x 0 : Int), .int .u64 (wd x 1 : Int), .int .u64 (wd x 2 : Int), .int .u64 (wd x 3 : Int)] 54, .row A138 6 c139 22 1 (dg [((wd x 0) / 2 ^ 0) % 65536, ((wd x 0) / 2 ^ 16) % 65536, ((wd x 0) / 2 ^ 32) % 65536, ((wd x 0) / 2 ^ 48) % 65536, ((wd x 1) / 2 ^ 0) % 65536, ((wd x 1) / 2 ^ 16) % 65536]), .row (some ⟨p35, 0, none⟩) 1 1 22 1 (dg [((wd x 0) / 2 ^ 0) % 65536]), .row (some ⟨p52, 0, none⟩) 1 1 22 1 (dg [((wd x 0) / 2 ^ 16) % 65536]), .row (some ⟨p69, 0, none⟩) 1 1 22 1 (dg [((wd x 0) / 2 ^ 32) % 65536]), .row (some ⟨p86, 0, none⟩) 1 1 22 1 (dg [((wd x 0) / 2 ^ 48) % 65536]), .row (some ⟨p117, 0, none⟩) 1 1 22 1 (dg [((wd x 1) / 2 ^ 0) % 65536]), .row (some ⟨p134, 0, none⟩) 1 1 22 1 (dg [((wd x 1) / 2 ^ 16) % 65536])] w140 := H142
  refine GL.sem (j := 8) (r141) [5, 6, 8, 9, 23] [(5, .int .u64 (wd x 1 : Int)), (6, .int .i64 1), (8, wv x), (9, .int .i64 1), (23, .slice A138 6 c139)] (by kernel_rfl) (by kernel_rfl) rfl ?_
  refine GL.run (j := 9) 1 [3, 5, 6, 8, 9] [(3, .slice A138 6 c139), (5, .int .u64 (wd x 1 : Int)), (6, .int .i64 1), (8, wv x), (9, .int .i64 1)] (by kernel_rfl) rfl ?_
  refine GL.k rfl hK131 (fun _ _ h => h) ?_
  refine G.region ?_
  refine GL.run (j := 3) 3 [3, 5, 6, 8, 9] [(3, .slice A138 6 c139), (5, .int .u64 (wd x 1 : Int)), (6, .int .i64 2), (8, wv x), (9, .int .i64 1)] (by kernel_rfl) rfl ?_
  refine GL.round rfl ?_
  refine G.seqK fun K143 hK144 => ?_
  refine G.seqK fun K145 hK146 => ?_
  refine G.region ?_
  refine GL.run (j := 2) 2 [3, 5, 6, 8, 9, 13] [(3, .slice A138 6 c139), (5, .int .u64 (wd x 1 : Int)), (6, .int .i64 2), (8, wv x), (9, .int .i64 1), (13, .bool true)] (by kernel_rfl) rfl ?_
  refine GL.k rfl hK146 (fun _ _ h => h) ?_
  refine G.yes rfl ?_
  refine G.skipK hK144 (fun _ _ h => h) ?_
  refine G.seqK fun K147 hK148 => ?_
  refine G.block ?_
  refine G.region ?_
  refine GL.run (j := 6) 6 [5, 6, 8, 9, 16, 21] [(5, .int .u64 (wd x 1 : Int)), (6, .int .i64 2), (8, wv x), (9, .int .i64 1), (16, .slice A138 6 c139), (21, .int .u64 (Int.tmod (Int.fdiv (wd x 1 : Int) (2 ^ 32)) 65536))] (by kernel_rfl) rfl ?_
  have e149 : (Int.fdiv (wd x 1 : Int) (2 ^ 32)) = (((wd x 1) / 2 ^ 32 : Nat) : Int) := n_shr _ 32
  have e150 : (Int.tmod (((wd x 1) / 2 ^ 32 : Nat) : Int) 65536) = ((((wd x 1) / 2 ^ 32) % 65536 : Nat) : Int) := n_rem _ 65536
  refine GL.eq (M' := [(5, .int .u64 (wd x 1 : Int)), (6, .int .i64 2), (8, wv x), (9, .int .i64 1), (16, .slice A138 6 c139), (21, .int .u64 ((((wd x 1) / 2 ^ 32) % 65536 : Nat) : Int))]) (by rw [e149, e150]) ?_
  clear e149 e150
  obtain ⟨p151, w152, r153, H154⟩ := H142.madeRow (P := Try.prog) (Instr.buildSlice 52 1 #[(0, .int .u64 ((((wd x 1) / 2 ^ 32) % 65536 : Nat) : Int))]) (fun b_ => .slice (some ⟨b_, 0, none⟩) 1 1) [.int .u64 ((((wd x 1) / 2 ^ 32) % 65536 : Nat) : Int)] 22 1 1 1 (by kernel_rfl) (by decide) (by decide) rfl
  have H154 : Hp w [] [.blk p3 [.int .u64 (wd x 0 : Int), .int .u64 (wd x 1 : Int), .int .u64 (wd x 2 : Int), .int .u64 (wd x 3 : Int)] 54, .row A138 6 c139 22 1 (dg [((wd x 0) / 2 ^ 0) % 65536, ((wd x 0) / 2 ^ 16) % 65536, ((wd x 0) / 2 ^ 32) % 65536, ((wd x 0) / 2 ^ 48) % 65536, ((wd x 1) / 2 ^ 0) % 65536, ((wd x 1) / 2 ^ 16) % 65536]), .row (some ⟨p35, 0, none⟩) 1 1 22 1 (dg [((wd x 0) / 2 ^ 0) % 65536]), .row (some ⟨p52, 0, none⟩) 1 1 22 1 (dg [((wd x 0) / 2 ^ 16) % 65536]), .row (some ⟨p69, 0, none⟩) 1 1 22 1 (dg [((wd x 0) / 2 ^ 32) % 65536]), .row (some ⟨p86, 0, none⟩) 1 1 22 1 (dg [((wd x 0) / 2 ^ 48) % 65536]), .row (some ⟨p117, 0, none⟩) 1 1 22 1 (dg [((wd x 1) / 2 ^ 0) % 65536]), .row (some ⟨p134, 0, none⟩) 1 1 22 1 (dg [((wd x 1) / 2 ^ 16) % 65536]), .row (some ⟨p151, 0, none⟩) 1 1 22 1 (dg [((wd x 1) / 2 ^ 32) % 65536])] w152 := H154
  refine GL.sem (j := 7) (r153) [5, 6, 8, 9, 16, 22] [(5, .int .u64 (wd x 1 : Int)), (6, .int .i64 2), (8, wv x), (9, .int .i64 1), (16, .slice A138 6 c139), (22, .slice (some ⟨p151, 0, none⟩) 1 1)] (by kernel_rfl) (by kernel_rfl) rfl ?_
  obtain ⟨A155, c156, w157, r158, H159⟩ := H154.append (P := Try.prog) (e := 22) (sz := 1) (by_ := 8) (n := 6) (c := c139) (m := 1) (d := 1) (t := 52) (ty := 52) (xs := dg [((wd x 0) / 2 ^ 0) % 65536, ((wd x 0) / 2 ^ 16) % 65536, ((wd x 0) / 2 ^ 32) % 65536, ((wd x 0) / 2 ^ 48) % 65536, ((wd x 1) / 2 ^ 0) % 65536, ((wd x 1) / 2 ^ 16) % 65536]) (news := dg [((wd x 1) / 2 ^ 32) % 65536]) 1 rfl (by kernel_rfl) (H154.rdRow 8 rfl) (by simp [dg_length]) (dg_one _) (by omega) (by simp only [maxLen]; omega)
  have H159 : Hp w [] [.blk p3 [.int .u64 (wd x 0 : Int), .int .u64 (wd x 1 : Int), .int .u64 (wd x 2 : Int), .int .u64 (wd x 3 : Int)] 54, .row A155 7 c156 22 1 (dg [((wd x 0) / 2 ^ 0) % 65536, ((wd x 0) / 2 ^ 16) % 65536, ((wd x 0) / 2 ^ 32) % 65536, ((wd x 0) / 2 ^ 48) % 65536, ((wd x 1) / 2 ^ 0) % 65536, ((wd x 1) / 2 ^ 16) % 65536, ((wd x 1) / 2 ^ 32) % 65536]), .row (some ⟨p35, 0, none⟩) 1 1 22 1 (dg [((wd x 0) / 2 ^ 0) % 65536]), .row (some ⟨p52, 0, none⟩) 1 1 22 1 (dg [((wd x 0) / 2 ^ 16) % 65536]), .row (some ⟨p69, 0, none⟩) 1 1 22 1 (dg [((wd x 0) / 2 ^ 32) % 65536]), .row (some ⟨p86, 0, none⟩) 1 1 22 1 (dg [((wd x 0) / 2 ^ 48) % 65536]), .row (some ⟨p117, 0, none⟩) 1 1 22 1 (dg [((wd x 1) / 2 ^ 0) % 65536]), .row (some ⟨p134, 0, none⟩) 1 1 22 1 (dg [((wd x 1) / 2 ^ 16) % 65536]), .row (some ⟨p151, 0, none⟩) 1 1 22 1 (dg [((wd x 1) / 2 ^ 32) % 65536])] w157 := H159
  refine GL.sem (j := 8) (r158) [5, 6, 8, 9, 23] [(5, .int .u64 (wd x 1 : Int)), (6, .int .i64 2), (8, wv x), (9, .int .i64 1), (23, .slice A155 7 c156)] (by kernel_rfl) (by kernel_rfl) rfl ?_
  refine GL.run (j := 9) 1 [3, 5, 6, 8, 9] [(3, .slice A155 7 c156), (5, .int .u64 (wd x 1 : Int)), (6, .int .i64 2), (8, wv x), (9, .int .i64 1)] (by kernel_rfl) rfl ?_
  refine GL.k rfl hK148 (fun _ _ h => h) ?_
  refine G.region ?_
  refine GL.run (j := 3) 3 [3, 5, 6, 8, 9] [(3, .slice A155 7 c156), (5, .int .u64 (wd x 1 : Int)), (6, .int .i64 3), (8, wv x), (9, .int .i64 1)] (by kernel_rfl) rfl ?_
  refine GL.round rfl ?_
  refine G.seqK fun K160 hK161 => ?_
  refine G.seqK fun K162 hK163 => ?_
  refine G.region ?_
  refine GL.run (j := 2) 2 [3, 5, 6, 8, 9, 13] [(3, .slice A155 7 c156), (5, .int .u64 (wd x 1 : Int)), (6, .int .i64 3), (8, wv x), (9, .int .i64 1), (13, .bool true)] (by kernel_rfl) rfl ?_
  refine GL.k rfl hK163 (fun _ _ h => h) ?_
  refine G.yes rfl ?_
  refine G.skipK hK161 (fun _ _ h => h) ?_
  refine G.seqK fun K164 hK165 => ?_
  refine G.block ?_
  refine G.region ?_
  refine GL.run (j := 6) 6 [5, 6, 8, 9, 16, 21] [(5, .int .u64 (wd x 1 : Int)), (6, .int .i64 3), (8, wv x), (9, .int .i64 1), (16, .slice A155 7 c156), (21, .int .u64 (Int.tmod (Int.fdiv (wd x 1 : Int) (2 ^ 48)) 65536))] (by kernel_rfl) rfl ?_
  have e166 : (Int.fdiv (wd x 1 : Int) (2 ^ 48)) = (((wd x 1) / 2 ^ 48 : Nat) : Int) := n_shr _ 48
  have e167 : (Int.tmod (((wd x 1) / 2 ^ 48 : Nat) : Int) 65536) = ((((wd x 1) / 2 ^ 48) % 65536 : Nat) : Int) := n_rem _ 65536
  refine GL.eq (M' := [(5, .int .u64 (wd x 1 : Int)), (6, .int .i64 3), (8, wv x), (9, .int .i64 1), (16, .slice A155 7 c156), (21, .int .u64 ((((wd x 1) / 2 ^ 48) % 65536 : Nat) : Int))]) (by rw [e166, e167]) ?_
  clear e166 e167
  obtain ⟨p168, w169, r170, H171⟩ := H159.madeRow (P := Try.prog) (Instr.buildSlice 52 1 #[(0, .int .u64 ((((wd x 1) / 2 ^ 48) % 65536 : Nat) : Int))]) (fun b_ => .slice (some ⟨b_, 0, none⟩) 1 1) [.int .u64 ((((wd x 1) / 2 ^ 48) % 65536 : Nat) : Int)] 22 1 1 1 (by kernel_rfl) (by decide) (by decide) rfl
  have H171 : Hp w [] [.blk p3 [.int .u64 (wd x 0 : Int), .int .u64 (wd x 1 : Int), .int .u64 (wd x 2 : Int), .int .u64 (wd x 3 : Int)] 54, .row A155 7 c156 22 1 (dg [((wd x 0) / 2 ^ 0) % 65536, ((wd x 0) / 2 ^ 16) % 65536, ((wd x 0) / 2 ^ 32) % 65536, ((wd x 0) / 2 ^ 48) % 65536, ((wd x 1) / 2 ^ 0) % 65536, ((wd x 1) / 2 ^ 16) % 65536, ((wd x 1) / 2 ^ 32) % 65536]), .row (some ⟨p35, 0, none⟩) 1 1 22 1 (dg [((wd x 0) / 2 ^ 0) % 65536]), .row (some ⟨p52, 0, none⟩) 1 1 22 1 (dg [((wd x 0) / 2 ^ 16) % 65536]), .row (some ⟨p69, 0, none⟩) 1 1 22 1 (dg [((wd x 0) / 2 ^ 32) % 65536]), .row (some ⟨p86, 0, none⟩) 1 1 22 1 (dg [((wd x 0) / 2 ^ 48) % 65536]), .row (some ⟨p117, 0, none⟩) 1 1 22 1 (dg [((wd x 1) / 2 ^ 0) % 65536]), .row (some ⟨p134, 0, none⟩) 1 1 22 1 (dg [((wd x 1) / 2 ^ 16) % 65536]), .row (some ⟨p151, 0, none⟩) 1 1 22 1 (dg [((wd x 1) / 2 ^ 32) % 65536]), .row (some ⟨p168, 0, none⟩) 1 1 22 1 (dg [((wd x 1) / 2 ^ 48) % 65536])] w169 := H171
  refine GL.sem (j := 7) (r170) [5, 6, 8, 9, 16, 22] [(5, .int .u64 (wd x 1 : Int)), (6, .int .i64 3), (8, wv x), (9, .int .i64 1), (16, .slice A155 7 c156), (22, .slice (some ⟨p168, 0, none⟩) 1 1)] (by kernel_rfl) (by kernel_rfl) rfl ?_
  obtain ⟨A172, c173, w174, r175, H176⟩ := H171.append (P := Try.prog) (e := 22) (sz := 1) (by_ := 8) (n := 7) (c := c156) (m := 1) (d := 1) (t := 52) (ty := 52) (xs := dg [((wd x 0) / 2 ^ 0) % 65536, ((wd x 0) / 2 ^ 16) % 65536, ((wd x 0) / 2 ^ 32) % 65536, ((wd x 0) / 2 ^ 48) % 65536, ((wd x 1) / 2 ^ 0) % 65536, ((wd x 1) / 2 ^ 16) % 65536, ((wd x 1) / 2 ^ 32) % 65536]) (news := dg [((wd x 1) / 2 ^ 48) % 65536]) 1 rfl (by kernel_rfl) (H171.rdRow 9 rfl) (by simp [dg_length]) (dg_one _) (by omega) (by simp only [maxLen]; omega)
  have H176 : Hp w [] [.blk p3 [.int .u64 (wd x 0 : Int), .int .u64 (wd x 1 : Int), .int .u64 (wd x 2 : Int), .int .u64 (wd x 3 : Int)] 54, .row A172 8 c173 22 1 (dg [((wd x 0) / 2 ^ 0) % 65536, ((wd x 0) / 2 ^ 16) % 65536, ((wd x 0) / 2 ^ 32) % 65536, ((wd x 0) / 2 ^ 48) % 65536, ((wd x 1) / 2 ^ 0) % 65536, ((wd x 1) / 2 ^ 16) % 65536, ((wd x 1) / 2 ^ 32) % 65536, ((wd x 1) / 2 ^ 48) % 65536]), .row (some ⟨p35, 0, none⟩) 1 1 22 1 (dg [((wd x 0) / 2 ^ 0) % 65536]), .row (some ⟨p52, 0, none⟩) 1 1 22 1 (dg [((wd x 0) / 2 ^ 16) % 65536]), .row (some ⟨p69, 0, none⟩) 1 1 22 1 (dg [((wd x 0) / 2 ^ 32) % 65536]), .row (some ⟨p86, 0, none⟩) 1 1 22 1 (dg [((wd x 0) / 2 ^ 48) % 65536]), .row (some ⟨p117, 0, none⟩) 1 1 22 1 (dg [((wd x 1) / 2 ^ 0) % 65536]), .row (some ⟨p134, 0, none⟩) 1 1 22 1 (dg [((wd x 1) / 2 ^ 16) % 65536]), .row (some ⟨p151, 0, none⟩) 1 1 22 1 (dg [((wd x 1) / 2 ^ 32) % 65536]), .row (some ⟨p168, 0, none⟩) 1 1 22 1 (dg [((wd x 1) / 2 ^ 48) % 65536])] w174 := H176
  refine GL.sem (j := 8) (r175) [5, 6, 8, 9, 23] [(5, .int .u64 (wd x 1 : Int)), (6, .int .i64 3), (8, wv x), (9, .int .i64 1), (23, .slice A172 8 c173)] (by kernel_rfl) (by kernel_rfl) rfl ?_
  refine GL.run (j := 9) 1 [3, 5, 6, 8, 9] [(3, .slice A172 8 c173), (5, .int .u64 (wd x 1 : Int)), (6, .int .i64 3), (8, wv x), (9, .int .i64 1)] (by kernel_rfl) rfl ?_
  refine GL.k rfl hK165 (fun _ _ h => h) ?_
  refine G.region ?_
  refine GL.run (j := 3) 3 [3, 5, 6, 8, 9] [(3, .slice A172 8 c173), (5, .int .u64 (wd x 1 : Int)), (6, .int .i64 4), (8, wv x), (9, .int .i64 1)] (by kernel_rfl) rfl ?_
  refine GL.round rfl ?_
  refine G.seqK fun K177 hK178 => ?_
  refine G.seqK fun K179 hK180 => ?_
  refine G.region ?_
  refine GL.run (j := 2) 2 [3, 5, 6, 8, 9, 13] [(3, .slice A172 8 c173), (5, .int .u64 (wd x 1 : Int)), (6, .int .i64 4), (8, wv x), (9, .int .i64 1), (13, .bool false)] (by kernel_rfl) rfl ?_
  refine GL.k rfl hK180 (fun _ _ h => h) ?_
  refine G.no rfl ?_
  refine G.exitK hK104 (fun _ _ h => h) ?_
  refine G.region ?_
  refine GL.run (j := 2) 2 [3, 8, 9] [(3, .slice A172 8 c173), (8, wv x), (9, .int .i64 2)] (by kernel_rfl) rfl ?_
  refine GL.round rfl ?_
  refine G.seqK fun K181 hK182 => ?_
  refine G.region ?_
  refine GL.run (j := 1) 1 [3, 8, 9, 10] [(3, .slice A172 8 c173), (8, wv x), (9, .int .i64 2), (10, .bool true)] (by kernel_rfl) rfl ?_
  refine GL.k rfl hK182 (fun _ _ h => h) ?_
  refine G.seqK fun K183 hK184 => ?_
  refine G.yes rfl ?_
  refine G.skipK hK184 (fun _ _ h => h) ?_
  refine G.seqK fun K185 hK186 => ?_
  refine G.block ?_
  refine G.seqK fun K187 hK188 => ?_
  refine G.region ?_
  refine GL.run (j := 2) 2 [3, 5, 8, 9] [(3, .slice A172 8 c173), (5, .int .u64 (wd x 2 : Int)), (8, wv x), (9, .int .i64 2)] (by kernel_rfl) rfl ?_
  refine GL.k rfl hK188 (fun _ _ h => h) ?_
  refine G.seqK fun K189 hK190 => ?_
  refine G.region ?_
  refine GL.run (j := 1) 1 [3, 5, 6, 8, 9] [(3, .slice A172 8 c173), (5, .int .u64 (wd x 2 : Int)), (6, .int .i64 0), (8, wv x), (9, .int .i64 2)] (by kernel_rfl) rfl ?_
  refine GL.k rfl hK190 (fun _ _ h => h) ?_
  refine G.block ?_
  refine G.unroll 4 ?_
  refine G.seqK fun K191 hK192 => ?_
  refine G.seqK fun K193 hK194 => ?_
  refine G.region ?_
  refine GL.run (j := 2) 2 [3, 5, 6, 8, 9, 13] [(3, .slice A172 8 c173), (5, .int .u64 (wd x 2 : Int)), (6, .int .i64 0), (8, wv x), (9, .int .i64 2), (13, .bool true)] (by kernel_rfl) rfl ?_
  refine GL.k rfl hK194 (fun _ _ h => h) ?_
  refine G.yes rfl ?_
  refine G.skipK hK192 (fun _ _ h => h) ?_
  refine G.seqK fun K195 hK196 => ?_
  refine G.block ?_
  refine G.region ?_
  refine GL.run (j := 6) 6 [5, 6, 8, 9, 16, 21] [(5, .int .u64 (wd x 2 : Int)), (6, .int .i64 0), (8, wv x), (9, .int .i64 2), (16, .slice A172 8 c173), (21, .int .u64 (Int.tmod (Int.fdiv (wd x 2 : Int) (2 ^ 0)) 65536))] (by kernel_rfl) rfl ?_
  have e197 : (Int.fdiv (wd x 2 : Int) (2 ^ 0)) = (((wd x 2) / 2 ^ 0 : Nat) : Int) := n_shr _ 0
  have e198 : (Int.tmod (((wd x 2) / 2 ^ 0 : Nat) : Int) 65536) = ((((wd x 2) / 2 ^ 0) % 65536 : Nat) : Int) := n_rem _ 65536
  refine GL.eq (M' := [(5, .int .u64 (wd x 2 : Int)), (6, .int .i64 0), (8, wv x), (9, .int .i64 2), (16, .slice A172 8 c173), (21, .int .u64 ((((wd x 2) / 2 ^ 0) % 65536 : Nat) : Int))]) (by rw [e197, e198]) ?_
  clear e197 e198
  obtain ⟨p199, w200, r201, H202⟩ := H176.madeRow (P := Try.prog) (Instr.buildSlice 52 1 #[(0, .int .u64 ((((wd x 2) / 2 ^ 0) % 65536 : Nat) : Int))]) (fun b_ => .slice (some ⟨b_, 0, none⟩) 1 1) [.int .u64 ((((wd x 2) / 2 ^ 0) % 65536 : Nat) : Int)] 22 1 1 1 (by kernel_rfl) (by decide) (by decide) rfl
  have H202 : Hp w [] [.blk p3 [.int .u64 (wd x 0 : Int), .int .u64 (wd x 1 : Int), .int .u64 (wd x 2 : Int), .int .u64 (wd x 3 : Int)] 54, .row A172 8 c173 22 1 (dg [((wd x 0) / 2 ^ 0) % 65536, ((wd x 0) / 2 ^ 16) % 65536, ((wd x 0) / 2 ^ 32) % 65536, ((wd x 0) / 2 ^ 48) % 65536, ((wd x 1) / 2 ^ 0) % 65536, ((wd x 1) / 2 ^ 16) % 65536, ((wd x 1) / 2 ^ 32) % 65536, ((wd x 1) / 2 ^ 48) % 65536]), .row (some ⟨p35, 0, none⟩) 1 1 22 1 (dg [((wd x 0) / 2 ^ 0) % 65536]), .row (some ⟨p52, 0, none⟩) 1 1 22 1 (dg [((wd x 0) / 2 ^ 16) % 65536]), .row (some ⟨p69, 0, none⟩) 1 1 22 1 (dg [((wd x 0) / 2 ^ 32) % 65536]), .row (some ⟨p86, 0, none⟩) 1 1 22 1 (dg [((wd x 0) / 2 ^ 48) % 65536]), .row (some ⟨p117, 0, none⟩) 1 1 22 1 (dg [((wd x 1) / 2 ^ 0) % 65536]), .row (some ⟨p134, 0, none⟩) 1 1 22 1 (dg [((wd x 1) / 2 ^ 16) % 65536]), .row (some ⟨p151, 0, none⟩) 1 1 22 1 (dg [((wd x 1) / 2 ^ 32) % 65536]), .row (some ⟨p168, 0, none⟩) 1 1 22 1 (dg [((wd x 1) / 2 ^ 48) % 65536]), .row (some ⟨p199, 0, none⟩) 1 1 22 1 (dg [((wd x 2) / 2 ^ 0) % 65536])] w200 := H202
  refine GL.sem (j := 7) (r201) [5, 6, 8, 9, 16, 22] [(5, .int .u64 (wd x 2 : Int)), (6, .int .i64 0), (8, wv x), (9, .int .i64 2), (16, .slice A172 8 c173), (22, .slice (some ⟨p199, 0, none⟩) 1 1)] (by kernel_rfl) (by kernel_rfl) rfl ?_
  obtain ⟨A203, c204, w205, r206, H207⟩ := H202.append (P := Try.prog) (e := 22) (sz := 1) (by_ := 8) (n := 8) (c := c173) (m := 1) (d := 1) (t := 52) (ty := 52) (xs := dg [((wd x 0) / 2 ^ 0) % 65536, ((wd x 0) / 2 ^ 16) % 65536, ((wd x 0) / 2 ^ 32) % 65536, ((wd x 0) / 2 ^ 48) % 65536, ((wd x 1) / 2 ^ 0) % 65536, ((wd x 1) / 2 ^ 16) % 65536, ((wd x 1) / 2 ^ 32) % 65536, ((wd x 1) / 2 ^ 48) % 65536]) (news := dg [((wd x 2) / 2 ^ 0) % 65536]) 1 rfl (by kernel_rfl) (H202.rdRow 10 rfl) (by simp [dg_length]) (dg_one _) (by omega) (by simp only [maxLen]; omega)
  have H207 : Hp w [] [.blk p3 [.int .u64 (wd x 0 : Int), .int .u64 (wd x 1 : Int), .int .u64 (wd x 2 : Int), .int .u64 (wd x 3 : Int)] 54, .row A203 9 c204 22 1 (dg [((wd x 0) / 2 ^ 0) % 65536, ((wd x 0) / 2 ^ 16) % 65536, ((wd x 0) / 2 ^ 32) % 65536, ((wd x 0) / 2 ^ 48) % 65536, ((wd x 1) / 2 ^ 0) % 65536, ((wd x 1) / 2 ^ 16) % 65536, ((wd x 1) / 2 ^ 32) % 65536, ((wd x 1) / 2 ^ 48) % 65536, ((wd x 2) / 2 ^ 0) % 65536]), .row (some ⟨p35, 0, none⟩) 1 1 22 1 (dg [((wd x 0) / 2 ^ 0) % 65536]), .row (some ⟨p52, 0, none⟩) 1 1 22 1 (dg [((wd x 0) / 2 ^ 16) % 65536]), .row (some ⟨p69, 0, none⟩) 1 1 22 1 (dg [((wd x 0) / 2 ^ 32) % 65536]), .row (some ⟨p86, 0, none⟩) 1 1 22 1 (dg [((wd x 0) / 2 ^ 48) % 65536]), .row (some ⟨p117, 0, none⟩) 1 1 22 1 (dg [((wd x 1) / 2 ^ 0) % 65536]), .row (some ⟨p134, 0, none⟩) 1 1 22 1 (dg [((wd x 1) / 2 ^ 16) % 65536]), .row (some ⟨p151, 0, none⟩) 1 1 22 1 (dg [((wd x 1) / 2 ^ 32) % 65536]), .row (some ⟨p168, 0, none⟩) 1 1 22 1 (dg [((wd x 1) / 2 ^ 48) % 65536]), .row (some ⟨p199, 0, none⟩) 1 1 22 1 (dg [((wd x 2) / 2 ^ 0) % 65536])] w205 := H207
  refine GL.sem (j := 8) (r206) [5, 6, 8, 9, 23] [(5, .int .u64 (wd x 2 : Int)), (6, .int .i64 0), (8, wv x), (9, .int .i64 2), (23, .slice A203 9 c204)] (by kernel_rfl) (by kernel_rfl) rfl ?_
  refine GL.run (j := 9) 1 [3, 5, 6, 8, 9] [(3, .slice A203 9 c204), (5, .int .u64 (wd x 2 : Int)), (6, .int .i64 0), (8, wv x), (9, .int .i64 2)] (by kernel_rfl) rfl ?_
  refine GL.k rfl hK196 (fun _ _ h => h) ?_
  refine G.region ?_
  refine GL.run (j := 3) 3 [3, 5, 6, 8, 9] [(3, .slice A203 9 c204), (5, .int .u64 (wd x 2 : Int)), (6, .int .i64 1), (8, wv x), (9, .int .i64 2)] (by kernel_rfl) rfl ?_
  refine GL.round rfl ?_
  refine G.seqK fun K208 hK209 => ?_
  refine G.seqK fun K210 hK211 => ?_
  refine G.region ?_
  refine GL.run (j := 2) 2 [3, 5, 6, 8, 9, 13] [(3, .slice A203 9 c204), (5, .int .u64 (wd x 2 : Int)), (6, .int .i64 1), (8, wv x), (9, .int .i64 2), (13, .bool true)] (by kernel_rfl) rfl ?_
  refine GL.k rfl hK211 (fun _ _ h => h) ?_
  refine G.yes rfl ?_
  refine G.skipK hK209 (fun _ _ h => h) ?_
  refine G.seqK fun K212 hK213 => ?_
  refine G.block ?_
  refine G.region ?_
  refine GL.run (j := 6) 6 [5, 6, 8, 9, 16, 21] [(5, .int .u64 (wd x 2 : Int)), (6, .int .i64 1), (8, wv x), (9, .int .i64 2), (16, .slice A203 9 c204), (21, .int .u64 (Int.tmod (Int.fdiv (wd x 2 : Int) (2 ^ 16)) 65536))] (by kernel_rfl) rfl ?_
  have e214 : (Int.fdiv (wd x 2 : Int) (2 ^ 16)) = (((wd x 2) / 2 ^ 16 : Nat) : Int) := n_shr _ 16
  have e215 : (Int.tmod (((wd x 2) / 2 ^ 16 : Nat) : Int) 65536) = ((((wd x 2) / 2 ^ 16) % 65536 : Nat) : Int) := n_rem _ 65536
  refine GL.eq (M' := [(5, .int .u64 (wd x 2 : Int)), (6, .int .i64 1), (8, wv x), (9, .int .i64 2), (16, .slice A203 9 c204), (21, .int .u64 ((((wd x 2) / 2 ^ 16) % 65536 : Nat) : Int))]) (by rw [e214, e215]) ?_
  clear e214 e215
  obtain ⟨p216, w217, r218, H219⟩ := H207.madeRow (P := Try.prog) (Instr.buildSlice 52 1 #[(0, .int .u64 ((((wd x 2) / 2 ^ 16) % 65536 : Nat) : Int))]) (fun b_ => .slice (some ⟨b_, 0, none⟩) 1 1) [.int .u64 ((((wd x 2) / 2 ^ 16) % 65536 : Nat) : Int)] 22 1 1 1 (by kernel_rfl) (by decide) (by decide) rfl
  have H219 : Hp w [] [.blk p3 [.int .u64 (wd x 0 : Int), .int .u64 (wd x 1 : Int), .int .u64 (wd x 2 : Int), .int .u64 (wd x 3 : Int)] 54, .row A203 9 c204 22 1 (dg [((wd x 0) / 2 ^ 0) % 65536, ((wd x 0) / 2 ^ 16) % 65536, ((wd x 0) / 2 ^ 32) % 65536, ((wd x 0) / 2 ^ 48) % 65536, ((wd x 1) / 2 ^ 0) % 65536, ((wd x 1) / 2 ^ 16) % 65536, ((wd x 1) / 2 ^ 32) % 65536, ((wd x 1) / 2 ^ 48) % 65536, ((wd x 2) / 2 ^ 0) % 65536]), .row (some ⟨p35, 0, none⟩) 1 1 22 1 (dg [((wd x 0) / 2 ^ 0) % 65536]), .row (some ⟨p52, 0, none⟩) 1 1 22 1 (dg [((wd x 0) / 2 ^ 16) % 65536]), .row (some ⟨p69, 0, none⟩) 1 1 22 1 (dg [((wd x 0) / 2 ^ 32) % 65536]), .row (some ⟨p86, 0, none⟩) 1 1 22 1 (dg [((wd x 0) / 2 ^ 48) % 65536]), .row (some ⟨p117, 0, none⟩) 1 1 22 1 (dg [((wd x 1) / 2 ^ 0) % 65536]), .row (some ⟨p134, 0, none⟩) 1 1 22 1 (dg [((wd x 1) / 2 ^ 16) % 65536]), .row (some ⟨p151, 0, none⟩) 1 1 22 1 (dg [((wd x 1) / 2 ^ 32) % 65536]), .row (some ⟨p168, 0, none⟩) 1 1 22 1 (dg [((wd x 1) / 2 ^ 48) % 65536]), .row (some ⟨p199, 0, none⟩) 1 1 22 1 (dg [((wd x 2) / 2 ^ 0) % 65536]), .row (some ⟨p216, 0, none⟩) 1 1 22 1 (dg [((wd x 2) / 2 ^ 16) % 65536])] w217 := H219
  refine GL.sem (j := 7) (r218) [5, 6, 8, 9, 16, 22] [(5, .int .u64 (wd x 2 : Int)), (6, .int .i64 1), (8, wv x), (9, .int .i64 2), (16, .slice A203 9 c204), (22, .slice (some ⟨p216, 0, none⟩) 1 1)] (by kernel_rfl) (by kernel_rfl) rfl ?_
  obtain ⟨A220, c221, w222, r223, H224⟩ := H219.append (P := Try.prog) (e := 22) (sz := 1) (by_ := 8) (n := 9) (c := c204) (m := 1) (d := 1) (t := 52) (ty := 52) (xs := dg [((wd x 0) / 2 ^ 0) % 65536, ((wd x 0) / 2 ^ 16) % 65536, ((wd x 0) / 2 ^ 32) % 65536, ((wd x 0) / 2 ^ 48) % 65536, ((wd x 1) / 2 ^ 0) % 65536, ((wd x 1) / 2 ^ 16) % 65536, ((wd x 1) / 2 ^ 32) % 65536, ((wd x 1) / 2 ^ 48) % 65536, ((wd x 2) / 2 ^ 0) % 65536]) (news := dg [((wd x 2) / 2 ^ 16) % 65536]) 1 rfl (by kernel_rfl) (H219.rdRow 11 rfl) (by simp [dg_length]) (dg_one _) (by omega) (by simp only [maxLen]; omega)
  have H224 : Hp w [] [.blk p3 [.int .u64 (wd x 0 : Int), .int .u64 (wd x 1 : Int), .int .u64 (wd x 2 : Int), .int .u64 (wd x 3 : Int)] 54, .row A220 10 c221 22 1 (dg [((wd x 0) / 2 ^ 0) % 65536, ((wd x 0) / 2 ^ 16) % 65536, ((wd x 0) / 2 ^ 32) % 65536, ((wd x 0) / 2 ^ 48) % 65536, ((wd x 1) / 2 ^ 0) % 65536, ((wd x 1) / 2 ^ 16) % 65536, ((wd x 1) / 2 ^ 32) % 65536, ((wd x 1) / 2 ^ 48) % 65536, ((wd x 2) / 2 ^ 0) % 65536, ((wd x 2) / 2 ^ 16) % 65536]), .row (some ⟨p35, 0, none⟩) 1 1 22 1 (dg [((wd x 0) / 2 ^ 0) % 65536]), .row (some ⟨p52, 0, none⟩) 1 1 22 1 (dg [((wd x 0) / 2 ^ 16) % 65536]), .row (some ⟨p69, 0, none⟩) 1 1 22 1 (dg [((wd x 0) / 2 ^ 32) % 65536]), .row (some ⟨p86, 0, none⟩) 1 1 22 1 (dg [((wd x 0) / 2 ^ 48) % 65536]), .row (some ⟨p117, 0, none⟩) 1 1 22 1 (dg [((wd x 1) / 2 ^ 0) % 65536]), .row (some ⟨p134, 0, none⟩) 1 1 22 1 (dg [((wd x 1) / 2 ^ 16) % 65536]), .row (some ⟨p151, 0, none⟩) 1 1 22 1 (dg [((wd x 1) / 2 ^ 32) % 65536]), .row (some ⟨p168, 0, none⟩) 1 1 22 1 (dg [((wd x 1) / 2 ^ 48) % 65536]), .row (some ⟨p199, 0, none⟩) 1 1 22 1 (dg [((wd x 2) / 2 ^ 0) % 65536]), .row (some ⟨p216, 0, none⟩) 1 1 22 1 (dg [((wd x 2) / 2 ^ 16) % 65536])] w222 := H224
  refine GL.sem (j := 8) (r223) [5, 6, 8, 9, 23] [(5, .int .u64 (wd x 2 : Int)), (6, .int .i64 1), (8, wv x), (9, .int .i64 2), (23, .slice A220 10 c221)] (by kernel_rfl) (by kernel_rfl) rfl ?_
  refine GL.run (j := 9) 1 [3, 5, 6, 8, 9] [(3, .slice A220 10 c221), (5, .int .u64 (wd x 2 : Int)), (6, .int .i64 1), (8, wv x), (9, .int .i64 2)] (by kernel_rfl) rfl ?_
  refine GL.k rfl hK213 (fun _ _ h => h) ?_
  refine G.region ?_
  refine GL.run (j := 3) 3 [3, 5, 6, 8, 9] [(3, .slice A220 10 c221), (5, .int .u64 (wd x 2 : Int)), (6, .int .i64 2), (8, wv x), (9, .int .i64 2)] (by kernel_rfl) rfl ?_
  refine GL.round rfl ?_
  refine G.seqK fun K225 hK226 => ?_
  refine G.seqK fun K227 hK228 => ?_
  refine G.region ?_
  refine GL.run (j := 2) 2 [3, 5, 6, 8, 9, 13] [(3, .slice A220 10 c221), (5, .int .u64 (wd x 2 : Int)), (6, .int .i64 2), (8, wv x), (9, .int .i64 2), (13, .bool true)] (by kernel_rfl) rfl ?_
  refine GL.k rfl hK228 (fun _ _ h => h) ?_
  refine G.yes rfl ?_
  refine G.skipK hK226 (fun _ _ h => h) ?_
  refine G.seqK fun K229 hK230 => ?_
  refine G.block ?_
  refine G.region ?_
  refine GL.run (j := 6) 6 [5, 6, 8, 9, 16, 21] [(5, .int .u64 (wd x 2 : Int)), (6, .int .i64 2), (8, wv x), (9, .int .i64 2), (16, .slice A220 10 c221), (21, .int .u64 (Int.tmod (Int.fdiv (wd x 2 : Int) (2 ^ 32)) 65536))] (by kernel_rfl) rfl ?_
  have e231 : (Int.fdiv (wd x 2 : Int) (2 ^ 32)) = (((wd x 2) / 2 ^ 32 : Nat) : Int) := n_shr _ 32
  have e232 : (Int.tmod (((wd x 2) / 2 ^ 32 : Nat) : Int) 65536) = ((((wd x 2) / 2 ^ 32) % 65536 : Nat) : Int) := n_rem _ 65536
  refine GL.eq (M' := [(5, .int .u64 (wd x 2 : Int)), (6, .int .i64 2), (8, wv x), (9, .int .i64 2), (16, .slice A220 10 c221), (21, .int .u64 ((((wd x 2) / 2 ^ 32) % 65536 : Nat) : Int))]) (by rw [e231, e232]) ?_
  clear e231 e232
  obtain ⟨p233, w234, r235, H236⟩ := H224.madeRow (P := Try.prog) (Instr.buildSlice 52 1 #[(0, .int .u64 ((((wd x 2) / 2 ^ 32) % 65536 : Nat) : Int))]) (fun b_ => .slice (some ⟨b_, 0, none⟩) 1 1) [.int .u64 ((((wd x 2) / 2 ^ 32) % 65536 : Nat) : Int)] 22 1 1 1 (by kernel_rfl) (by decide) (by decide) rfl
  have H236 : Hp w [] [.blk p3 [.int .u64 (wd x 0 : Int), .int .u64 (wd x 1 : Int), .int .u64 (wd x 2 : Int), .int .u64 (wd x 3 : Int)] 54, .row A220 10 c221 22 1 (dg [((wd x 0) / 2 ^ 0) % 65536, ((wd x 0) / 2 ^ 16) % 65536, ((wd x 0) / 2 ^ 32) % 65536, ((wd x 0) / 2 ^ 48) % 65536, ((wd x 1) / 2 ^ 0) % 65536, ((wd x 1) / 2 ^ 16) % 65536, ((wd x 1) / 2 ^ 32) % 65536, ((wd x 1) / 2 ^ 48) % 65536, ((wd x 2) / 2 ^ 0) % 65536, ((wd x 2) / 2 ^ 16) % 65536]), .row (some ⟨p35, 0, none⟩) 1 1 22 1 (dg [((wd x 0) / 2 ^ 0) % 65536]), .row (some ⟨p52, 0, none⟩) 1 1 22 1 (dg [((wd x 0) / 2 ^ 16) % 65536]), .row (some ⟨p69, 0, none⟩) 1 1 22 1 (dg [((wd x 0) / 2 ^ 32) % 65536]), .row (some ⟨p86, 0, none⟩) 1 1 22 1 (dg [((wd x 0) / 2 ^ 48) % 65536]), .row (some ⟨p117, 0, none⟩) 1 1 22 1 (dg [((wd x 1) / 2 ^ 0) % 65536]), .row (some ⟨p134, 0, none⟩) 1 1 22 1 (dg [((wd x 1) / 2 ^ 16) % 65536]), .row (some ⟨p151, 0, none⟩) 1 1 22 1 (dg [((wd x 1) / 2 ^ 32) % 65536]), .row (some ⟨p168, 0, none⟩) 1 1 22 1 (dg [((wd x 1) / 2 ^ 48) % 65536]), .row (some ⟨p199, 0, none⟩) 1 1 22 1 (dg [((wd x 2) / 2 ^ 0) % 65536]), .row (some ⟨p216, 0, none⟩) 1 1 22 1 (dg [((wd x 2) / 2 ^ 16) % 65536]), .row (some ⟨p233, 0, none⟩) 1 1 22 1 (dg [((wd x 2) / 2 ^ 32) % 65536])] w234 := H236
  refine GL.sem (j := 7) (r235) [5, 6, 8, 9, 16, 22] [(5, .int .u64 (wd x 2 : Int)), (6, .int .i64 2), (8, wv x), (9, .int .i64 2), (16, .slice A220 10 c221), (22, .slice (some ⟨p233, 0, none⟩) 1 1)] (by kernel_rfl) (by kernel_rfl) rfl ?_
  obtain ⟨A237, c238, w239, r240, H241⟩ := H236.append (P := Try.prog) (e := 22) (sz := 1) (by_ := 8) (n := 10) (c := c221) (m := 1) (d := 1) (t := 52) (ty := 52) (xs := dg [((wd x 0) / 2 ^ 0) % 65536, ((wd x 0) / 2 ^ 16) % 65536, ((wd x 0) / 2 ^ 32) % 65536, ((wd x 0) / 2 ^ 48) % 65536, ((wd x 1) / 2 ^ 0) % 65536, ((wd x 1) / 2 ^ 16) % 65536, ((wd x 1) / 2 ^ 32) % 65536, ((wd x 1) / 2 ^ 48) % 65536, ((wd x 2) / 2 ^ 0) % 65536, ((wd x 2) / 2 ^ 16) % 65536]) (news := dg [((wd x 2) / 2 ^ 32) % 65536]) 1 rfl (by kernel_rfl) (H236.rdRow 12 rfl) (by simp [dg_length]) (dg_one _) (by omega) (by simp only [maxLen]; omega)
  have H241 : Hp w [] [.blk p3 [.int .u64 (wd x 0 : Int), .int .u64 (wd x 1 : Int), .int .u64 (wd x 2 : Int), .int .u64 (wd x 3 : Int)] 54, .row A237 11 c238 22 1 (dg [((wd x 0) / 2 ^ 0) % 65536, ((wd x 0) / 2 ^ 16) % 65536, ((wd x 0) / 2 ^ 32) % 65536, ((wd x 0) / 2 ^ 48) % 65536, ((wd x 1) / 2 ^ 0) % 65536, ((wd x 1) / 2 ^ 16) % 65536, ((wd x 1) / 2 ^ 32) % 65536, ((wd x 1) / 2 ^ 48) % 65536, ((wd x 2) / 2 ^ 0) % 65536, ((wd x 2) / 2 ^ 16) % 65536, ((wd x 2) / 2 ^ 32) % 65536]), .row (some ⟨p35, 0, none⟩) 1 1 22 1 (dg [((wd x 0) / 2 ^ 0) % 65536]), .row (some ⟨p52, 0, none⟩) 1 1 22 1 (dg [((wd x 0) / 2 ^ 16) % 65536]), .row (some ⟨p69, 0, none⟩) 1 1 22 1 (dg [((wd x 0) / 2 ^ 32) % 65536]), .row (some ⟨p86, 0, none⟩) 1 1 22 1 (dg [((wd x 0) / 2 ^ 48) % 65536]), .row (some ⟨p117, 0, none⟩) 1 1 22 1 (dg [((wd x 1) / 2 ^ 0) % 65536]), .row (some ⟨p134, 0, none⟩) 1 1 22 1 (dg [((wd x 1) / 2 ^ 16) % 65536]), .row (some ⟨p151, 0, none⟩) 1 1 22 1 (dg [((wd x 1) / 2 ^ 32) % 65536]), .row (some ⟨p168, 0, none⟩) 1 1 22 1 (dg [((wd x 1) / 2 ^ 48) % 65536]), .row (some ⟨p199, 0, none⟩) 1 1 22 1 (dg [((wd x 2) / 2 ^ 0) % 65536]), .row (some ⟨p216, 0, none⟩) 1 1 22 1 (dg [((wd x 2) / 2 ^ 16) % 65536]), .row (some ⟨p233, 0, none⟩) 1 1 22 1 (dg [((wd x 2) / 2 ^ 32) % 65536])] w239 := H241
  refine GL.sem (j := 8) (r240) [5, 6, 8, 9, 23] [(5, .int .u64 (wd x 2 : Int)), (6, .int .i64 2), (8, wv x), (9, .int .i64 2), (23, .slice A237 11 c238)] (by kernel_rfl) (by kernel_rfl) rfl ?_
  refine GL.run (j := 9) 1 [3, 5, 6, 8, 9] [(3, .slice A237 11 c238), (5, .int .u64 (wd x 2 : Int)), (6, .int .i64 2), (8, wv x), (9, .int .i64 2)] (by kernel_rfl) rfl ?_
  refine GL.k rfl hK230 (fun _ _ h => h) ?_
  refine G.region ?_
  refine GL.run (j := 3) 3 [3, 5, 6, 8, 9] [(3, .slice A237 11 c238), (5, .int .u64 (wd x 2 : Int)), (6, .int .i64 3), (8, wv x), (9, .int .i64 2)] (by kernel_rfl) rfl ?_
  refine GL.round rfl ?_
  refine G.seqK fun K242 hK243 => ?_
  refine G.seqK fun K244 hK245 => ?_
  refine G.region ?_
  refine GL.run (j := 2) 2 [3, 5, 6, 8, 9, 13] [(3, .slice A237 11 c238), (5, .int .u64 (wd x 2 : Int)), (6, .int .i64 3), (8, wv x), (9, .int .i64 2), (13, .bool true)] (by kernel_rfl) rfl ?_
  refine GL.k rfl hK245 (fun _ _ h => h) ?_
  refine G.yes rfl ?_
  refine G.skipK hK243 (fun _ _ h => h) ?_
  refine G.seqK fun K246 hK247 => ?_
  refine G.block ?_
  refine G.region ?_
  refine GL.run (j := 6) 6 [5, 6, 8, 9, 16, 21] [(5, .int .u64 (wd x 2 : Int)), (6, .int .i64 3), (8, wv x), (9, .int .i64 2), (16, .slice A237 11 c238), (21, .int .u64 (Int.tmod (Int.fdiv (wd x 2 : Int) (2 ^ 48)) 65536))] (by kernel_rfl) rfl ?_
  have e248 : (Int.fdiv (wd x 2 : Int) (2 ^ 48)) = (((wd x 2) / 2 ^ 48 : Nat) : Int) := n_shr _ 48
  have e249 : (Int.tmod (((wd x 2) / 2 ^ 48 : Nat) : Int) 65536) = ((((wd x 2) / 2 ^ 48) % 65536 : Nat) : Int) := n_rem _ 65536
  refine GL.eq (M' := [(5, .int .u64 (wd x 2 : Int)), (6, .int .i64 3), (8, wv x), (9, .int .i64 2), (16, .slice A237 11 c238), (21, .int .u64 ((((wd x 2) / 2 ^ 48) % 65536 : Nat) : Int))]) (by rw [e248, e249]) ?_
  clear e248 e249
  obtain ⟨p250, w251, r252, H253⟩ := H241.madeRow (P := Try.prog) (Instr.buildSlice 52 1 #[(0, .int .u64 ((((wd x 2) / 2 ^ 48) % 65536 : Nat) : Int))]) (fun b_ => .slice (some ⟨b_, 0, none⟩) 1 1) [.int .u64 ((((wd x 2) / 2 ^ 48) % 65536 : Nat) : Int)] 22 1 1 1 (by kernel_rfl) (by decide) (by decide) rfl
  have H253 : Hp w [] [.blk p3 [.int .u64 (wd x 0 : Int), .int .u64 (wd x 1 : Int), .int .u64 (wd x 2 : Int), .int .u64 (wd x 3 : Int)] 54, .row A237 11 c238 22 1 (dg [((wd x 0) / 2 ^ 0) % 65536, ((wd x 0) / 2 ^ 16) % 65536, ((wd x 0) / 2 ^ 32) % 65536, ((wd x 0) / 2 ^ 48) % 65536, ((wd x 1) / 2 ^ 0) % 65536, ((wd x 1) / 2 ^ 16) % 65536, ((wd x 1) / 2 ^ 32) % 65536, ((wd x 1) / 2 ^ 48) % 65536, ((wd x 2) / 2 ^ 0) % 65536, ((wd x 2) / 2 ^ 16) % 65536, ((wd x 2) / 2 ^ 32) % 65536]), .row (some ⟨p35, 0, none⟩) 1 1 22 1 (dg [((wd x 0) / 2 ^ 0) % 65536]), .row (some ⟨p52, 0, none⟩) 1 1 22 1 (dg [((wd x 0) / 2 ^ 16) % 65536]), .row (some ⟨p69, 0, none⟩) 1 1 22 1 (dg [((wd x 0) / 2 ^ 32) % 65536]), .row (some ⟨p86, 0, none⟩) 1 1 22 1 (dg [((wd x 0) / 2 ^ 48) % 65536]), .row (some ⟨p117, 0, none⟩) 1 1 22 1 (dg [((wd x 1) / 2 ^ 0) % 65536]), .row (some ⟨p134, 0, none⟩) 1 1 22 1 (dg [((wd x 1) / 2 ^ 16) % 65536]), .row (some ⟨p151, 0, none⟩) 1 1 22 1 (dg [((wd x 1) / 2 ^ 32) % 65536]), .row (some ⟨p168, 0, none⟩) 1 1 22 1 (dg [((wd x 1) / 2 ^ 48) % 65536]), .row (some ⟨p199, 0, none⟩) 1 1 22 1 (dg [((wd x 2) / 2 ^ 0) % 65536]), .row (some ⟨p216, 0, none⟩) 1 1 22 1 (dg [((wd x 2) / 2 ^ 16) % 65536]), .row (some ⟨p233, 0, none⟩) 1 1 22 1 (dg [((wd x 2) / 2 ^ 32) % 65536]), .row (some ⟨p250, 0, none⟩) 1 1 22 1 (dg [((wd x 2) / 2 ^ 48) % 65536])] w251 := H253
  refine GL.sem (j := 7) (r252) [5, 6, 8, 9, 16, 22] [(5, .int .u64 (wd x 2 : Int)), (6, .int .i64 3), (8, wv x), (9, .int .i64 2), (16, .slice A237 11 c238), (22, .slice (some ⟨p250, 0, none⟩) 1 1)] (by kernel_rfl) (by kernel_rfl) rfl ?_
  obtain ⟨A254, c255, w256, r257, H258⟩ := H253.append (P := Try.prog) (e := 22) (sz := 1) (by_ := 8) (n := 11) (c := c238) (m := 1) (d := 1) (t := 52) (ty := 52) (xs := dg [((wd x 0) / 2 ^ 0) % 65536, ((wd x 0) / 2 ^ 16) % 65536, ((wd x 0) / 2 ^ 32) % 65536, ((wd x 0) / 2 ^ 48) % 65536, ((wd x 1) / 2 ^ 0) % 65536, ((wd x 1) / 2 ^ 16) % 65536, ((wd x 1) / 2 ^ 32) % 65536, ((wd x 1) / 2 ^ 48) % 65536, ((wd x 2) / 2 ^ 0) % 65536, ((wd x 2) / 2 ^ 16) % 65536, ((wd x 2) / 2 ^ 32) % 65536]) (news := dg [((wd x 2) / 2 ^ 48) % 65536]) 1 rfl (by kernel_rfl) (H253.rdRow 13 rfl) (by simp [dg_length]) (dg_one _) (by omega) (by simp only [maxLen]; omega)
  have H258 : Hp w [] [.blk p3 [.int .u64 (wd x 0 : Int), .int .u64 (wd x 1 : Int), .int .u64 (wd x 2 : Int), .int .u64 (wd x 3 : Int)] 54, .row A254 12 c255 22 1 (dg [((wd x 0) / 2 ^ 0) % 65536, ((wd x 0) / 2 ^ 16) % 65536, ((wd x 0) / 2 ^ 32) % 65536, ((wd x 0) / 2 ^ 48) % 65536, ((wd x 1) / 2 ^ 0) % 65536, ((wd x 1) / 2 ^ 16) % 65536, ((wd x 1) / 2 ^ 32) % 65536, ((wd x 1) / 2 ^ 48) % 65536, ((wd x 2) / 2 ^ 0) % 65536, ((wd x 2) / 2 ^ 16) % 65536, ((wd x 2) / 2 ^ 32) % 65536, ((wd x 2) / 2 ^ 48) % 65536]), .row (some ⟨p35, 0, none⟩) 1 1 22 1 (dg [((wd x 0) / 2 ^ 0) % 65536]), .row (some ⟨p52, 0, none⟩) 1 1 22 1 (dg [((wd x 0) / 2 ^ 16) % 65536]), .row (some ⟨p69, 0, none⟩) 1 1 22 1 (dg [((wd x 0) / 2 ^ 32) % 65536]), .row (some ⟨p86, 0, none⟩) 1 1 22 1 (dg [((wd x 0) / 2 ^ 48) % 65536]), .row (some ⟨p117, 0, none⟩) 1 1 22 1 (dg [((wd x 1) / 2 ^ 0) % 65536]), .row (some ⟨p134, 0, none⟩) 1 1 22 1 (dg [((wd x 1) / 2 ^ 16) % 65536]), .row (some ⟨p151, 0, none⟩) 1 1 22 1 (dg [((wd x 1) / 2 ^ 32) % 65536]), .row (some ⟨p168, 0, none⟩) 1 1 22 1 (dg [((wd x 1) / 2 ^ 48) % 65536]), .row (some ⟨p199, 0, none⟩) 1 1 22 1 (dg [((wd x 2) / 2 ^ 0) % 65536]), .row (some ⟨p216, 0, none⟩) 1 1 22 1 (dg [((wd x 2) / 2 ^ 16) % 65536]), .row (some ⟨p233, 0, none⟩) 1 1 22 1 (dg [((wd x 2) / 2 ^ 32) % 65536]), .row (some ⟨p250, 0, none⟩) 1 1 22 1 (dg [((wd x 2) / 2 ^ 48) % 65536])] w256 := H258
  refine GL.sem (j := 8) (r257) [5, 6, 8, 9, 23] [(5, .int .u64 (wd x 2 : Int)), (6, .int .i64 3), (8, wv x), (9, .int .i64 2), (23, .slice A254 12 c255)] (by kernel_rfl) (by kernel_rfl) rfl ?_
  refine GL.run (j := 9) 1 [3, 5, 6, 8, 9] [(3, .slice A254 12 c255), (5, .int .u64 (wd x 2 : Int)), (6, .int .i64 3), (8, wv x), (9, .int .i64 2)] (by kernel_rfl) rfl ?_
  refine GL.k rfl hK247 (fun _ _ h => h) ?_
  refine G.region ?_
  refine GL.run (j := 3) 3 [3, 5, 6, 8, 9] [(3, .slice A254 12 c255), (5, .int .u64 (wd x 2 : Int)), (6, .int .i64 4), (8, wv x), (9, .int .i64 2)] (by kernel_rfl) rfl ?_
  refine GL.round rfl ?_
  refine G.seqK fun K259 hK260 => ?_
  refine G.seqK fun K261 hK262 => ?_
  refine G.region ?_
  refine GL.run (j := 2) 2 [3, 5, 6, 8, 9, 13] [(3, .slice A254 12 c255), (5, .int .u64 (wd x 2 : Int)), (6, .int .i64 4), (8, wv x), (9, .int .i64 2), (13, .bool false)] (by kernel_rfl) rfl ?_
  refine GL.k rfl hK262 (fun _ _ h => h) ?_
  refine G.no rfl ?_
  refine G.exitK hK186 (fun _ _ h => h) ?_
  refine G.region ?_
  refine GL.run (j := 2) 2 [3, 8, 9] [(3, .slice A254 12 c255), (8, wv x), (9, .int .i64 3)] (by kernel_rfl) rfl ?_
  refine GL.round rfl ?_
  refine G.seqK fun K263 hK264 => ?_
  refine G.region ?_
  refine GL.run (j := 1) 1 [3, 8, 9, 10] [(3, .slice A254 12 c255), (8, wv x), (9, .int .i64 3), (10, .bool true)] (by kernel_rfl) rfl ?_
  refine GL.k rfl hK264 (fun _ _ h => h) ?_
  refine G.seqK fun K265 hK266 => ?_
  refine G.yes rfl ?_
  refine G.skipK hK266 (fun _ _ h => h) ?_
  refine G.seqK fun K267 hK268 => ?_
  refine G.block ?_
  refine G.seqK fun K269 hK270 => ?_
  refine G.region ?_
  refine GL.run (j := 2) 2 [3, 5, 8, 9] [(3, .slice A254 12 c255), (5, .int .u64 (wd x 3 : Int)), (8, wv x), (9, .int .i64 3)] (by kernel_rfl) rfl ?_
  refine GL.k rfl hK270 (fun _ _ h => h) ?_
  refine G.seqK fun K271 hK272 => ?_
  refine G.region ?_
  refine GL.run (j := 1) 1 [3, 5, 6, 8, 9] [(3, .slice A254 12 c255), (5, .int .u64 (wd x 3 : Int)), (6, .int .i64 0), (8, wv x), (9, .int .i64 3)] (by kernel_rfl) rfl ?_
  refine GL.k rfl hK272 (fun _ _ h => h) ?_
  refine G.block ?_
  refine G.unroll 4 ?_
  refine G.seqK fun K273 hK274 => ?_
  refine G.seqK fun K275 hK276 => ?_
  refine G.region ?_
  refine GL.run (j := 2) 2 [3, 5, 6, 8, 9, 13] [(3, .slice A254 12 c255), (5, .int .u64 (wd x 3 : Int)), (6, .int .i64 0), (8, wv x), (9, .int .i64 3), (13, .bool true)] (by kernel_rfl) rfl ?_
  refine GL.k rfl hK276 (fun _ _ h => h) ?_
  refine G.yes rfl ?_
  refine G.skipK hK274 (fun _ _ h => h) ?_
  refine G.seqK fun K277 hK278 => ?_
  refine G.block ?_
  refine G.region ?_
  refine GL.run (j := 6) 6 [5, 6, 8, 9, 16, 21] [(5, .int .u64 (wd x 3 : Int)), (6, .int .i64 0), (8, wv x), (9, .int .i64 3), (16, .slice A254 12 c255), (21, .int .u64 (Int.tmod (Int.fdiv (wd x 3 : Int) (2 ^ 0)) 65536))] (by kernel_rfl) rfl ?_
  have e279 : (Int.fdiv (wd x 3 : Int) (2 ^ 0)) = (((wd x 3) / 2 ^ 0 : Nat) : Int) := n_shr _ 0
  have e280 : (Int.tmod (((wd x 3) / 2 ^ 0 : Nat) : Int) 65536) = ((((wd x 3) / 2 ^ 0) % 65536 : Nat) : Int) := n_rem _ 65536
  refine GL.eq (M' := [(5, .int .u64 (wd x 3 : Int)), (6, .int .i64 0), (8, wv x), (9, .int .i64 3), (16, .slice A254 12 c255), (21, .int .u64 ((((wd x 3) / 2 ^ 0) % 65536 : Nat) : Int))]) (by rw [e279, e280]) ?_
  clear e279 e280
  obtain ⟨p281, w282, r283, H284⟩ := H258.madeRow (P := Try.prog) (Instr.buildSlice 52 1 #[(0, .int .u64 ((((wd x 3) / 2 ^ 0) % 65536 : Nat) : Int))]) (fun b_ => .slice (some ⟨b_, 0, none⟩) 1 1) [.int .u64 ((((wd x 3) / 2 ^ 0) % 65536 : Nat) : Int)] 22 1 1 1 (by kernel_rfl) (by decide) (by decide) rfl
  have H284 : Hp w [] [.blk p3 [.int .u64 (wd x 0 : Int), .int .u64 (wd x 1 : Int), .int .u64 (wd x 2 : Int), .int .u64 (wd x 3 : Int)] 54, .row A254 12 c255 22 1 (dg [((wd x 0) / 2 ^ 0) % 65536, ((wd x 0) / 2 ^ 16) % 65536, ((wd x 0) / 2 ^ 32) % 65536, ((wd x 0) / 2 ^ 48) % 65536, ((wd x 1) / 2 ^ 0) % 65536, ((wd x 1) / 2 ^ 16) % 65536, ((wd x 1) / 2 ^ 32) % 65536, ((wd x 1) / 2 ^ 48) % 65536, ((wd x 2) / 2 ^ 0) % 65536, ((wd x 2) / 2 ^ 16) % 65536, ((wd x 2) / 2 ^ 32) % 65536, ((wd x 2) / 2 ^ 48) % 65536]), .row (some ⟨p35, 0, none⟩) 1 1 22 1 (dg [((wd x 0) / 2 ^ 0) % 65536]), .row (some ⟨p52, 0, none⟩) 1 1 22 1 (dg [((wd x 0) / 2 ^ 16) % 65536]), .row (some ⟨p69, 0, none⟩) 1 1 22 1 (dg [((wd x 0) / 2 ^ 32) % 65536]), .row (some ⟨p86, 0, none⟩) 1 1 22 1 (dg [((wd x 0) / 2 ^ 48) % 65536]), .row (some ⟨p117, 0, none⟩) 1 1 22 1 (dg [((wd x 1) / 2 ^ 0) % 65536]), .row (some ⟨p134, 0, none⟩) 1 1 22 1 (dg [((wd x 1) / 2 ^ 16) % 65536]), .row (some ⟨p151, 0, none⟩) 1 1 22 1 (dg [((wd x 1) / 2 ^ 32) % 65536]), .row (some ⟨p168, 0, none⟩) 1 1 22 1 (dg [((wd x 1) / 2 ^ 48) % 65536]), .row (some ⟨p199, 0, none⟩) 1 1 22 1 (dg [((wd x 2) / 2 ^ 0) % 65536]), .row (some ⟨p216, 0, none⟩) 1 1 22 1 (dg [((wd x 2) / 2 ^ 16) % 65536]), .row (some ⟨p233, 0, none⟩) 1 1 22 1 (dg [((wd x 2) / 2 ^ 32) % 65536]), .row (some ⟨p250, 0, none⟩) 1 1 22 1 (dg [((wd x 2) / 2 ^ 48) % 65536]), .row (some ⟨p281, 0, none⟩) 1 1 22 1 (dg [((wd x 3) / 2 ^ 0) % 65536])] w282 := H284
  refine GL.sem (j := 7) (r283) [5, 6, 8, 9, 16, 22] [(5, .int .u64 (wd x 3 : Int)), (6, .int .i64 0), (8, wv x), (9, .int .i64 3), (16, .slice A254 12 c255), (22, .slice (some ⟨p281, 0, none⟩) 1 1)] (by kernel_rfl) (by kernel_rfl) rfl ?_
  obtain ⟨A285, c286, w287, r288, H289⟩ := H284.append (P := Try.prog) (e := 22) (sz := 1) (by_ := 8) (n := 12) (c := c255) (m := 1) (d := 1) (t := 52) (ty := 52) (xs := dg [((wd x 0) / 2 ^ 0) % 65536, ((wd x 0) / 2 ^ 16) % 65536, ((wd x 0) / 2 ^ 32) % 65536, ((wd x 0) / 2 ^ 48) % 65536, ((wd x 1) / 2 ^ 0) % 65536, ((wd x 1) / 2 ^ 16) % 65536, ((wd x 1) / 2 ^ 32) % 65536, ((wd x 1) / 2 ^ 48) % 65536, ((wd x 2) / 2 ^ 0) % 65536, ((wd x 2) / 2 ^ 16) % 65536, ((wd x 2) / 2 ^ 32) % 65536, ((wd x 2) / 2 ^ 48) % 65536]) (news := dg [((wd x 3) / 2 ^ 0) % 65536]) 1 rfl (by kernel_rfl) (H284.rdRow 14 rfl) (by simp [dg_length]) (dg_one _) (by omega) (by simp only [maxLen]; omega)
  have H289 : Hp w [] [.blk p3 [.int .u64 (wd x 0 : Int), .int .u64 (wd x 1 : Int), .int .u64 (wd x 2 : Int), .int .u64 (wd x 3 : Int)] 54, .row A285 13 c286 22 1 (dg [((wd x 0) / 2 ^ 0) % 65536, ((wd x 0) / 2 ^ 16) % 65536, ((wd x 0) / 2 ^ 32) % 65536, ((wd x 0) / 2 ^ 48) % 65536, ((wd x 1) / 2 ^ 0) % 65536, ((wd x 1) / 2 ^ 16) % 65536, ((wd x 1) / 2 ^ 32) % 65536, ((wd x 1) / 2 ^ 48) % 65536, ((wd x 2) / 2 ^ 0) % 65536, ((wd x 2) / 2 ^ 16) % 65536, ((wd x 2) / 2 ^ 32) % 65536, ((wd x 2) / 2 ^ 48) % 65536, ((wd x 3) / 2 ^ 0) % 65536]), .row (some ⟨p35, 0, none⟩) 1 1 22 1 (dg [((wd x 0) / 2 ^ 0) % 65536]), .row (some ⟨p52, 0, none⟩) 1 1 22 1 (dg [((wd x 0) / 2 ^ 16) % 65536]), .row (some ⟨p69, 0, none⟩) 1 1 22 1 (dg [((wd x 0) / 2 ^ 32) % 65536]), .row (some ⟨p86, 0, none⟩) 1 1 22 1 (dg [((wd x 0) / 2 ^ 48) % 65536]), .row (some ⟨p117, 0, none⟩) 1 1 22 1 (dg [((wd x 1) / 2 ^ 0) % 65536]), .row (some ⟨p134, 0, none⟩) 1 1 22 1 (dg [((wd x 1) / 2 ^ 16) % 65536]), .row (some ⟨p151, 0, none⟩) 1 1 22 1 (dg [((wd x 1) / 2 ^ 32) % 65536]), .row (some ⟨p168, 0, none⟩) 1 1 22 1 (dg [((wd x 1) / 2 ^ 48) % 65536]), .row (some ⟨p199, 0, none⟩) 1 1 22 1 (dg [((wd x 2) / 2 ^ 0) % 65536]), .row (some ⟨p216, 0, none⟩) 1 1 22 1 (dg [((wd x 2) / 2 ^ 16) % 65536]), .row (some ⟨p233, 0, none⟩) 1 1 22 1 (dg [((wd x 2) / 2 ^ 32) % 65536]), .row (some ⟨p250, 0, none⟩) 1 1 22 1 (dg [((wd x 2) / 2 ^ 48) % 65536]), .row (some ⟨p281, 0, none⟩) 1 1 22 1 (dg [((wd x 3) / 2 ^ 0) % 65536])] w287 := H289
  refine GL.sem (j := 8) (r288) [5, 6, 8, 9, 23] [(5, .int .u64 (wd x 3 : Int)), (6, .int .i64 0), (8, wv x), (9, .int .i64 3), (23, .slice A285 13 c286)] (by kernel_rfl) (by kernel_rfl) rfl ?_
  refine GL.run (j := 9) 1 [3, 5, 6, 8, 9] [(3, .slice A285 13 c286), (5, .int .u64 (wd x 3 : Int)), (6, .int .i64 0), (8, wv x), (9, .int .i64 3)] (by kernel_rfl) rfl ?_
  refine GL.k rfl hK278 (fun _ _ h => h) ?_
  refine G.region ?_
  refine GL.run (j := 3) 3 [3, 5, 6, 8, 9] [(3, .slice A285 13 c286), (5, .int .u64 (wd x 3 : Int)), (6, .int .i64 1), (8, wv x), (9, .int .i64 3)] (by kernel_rfl) rfl ?_
  refine GL.round rfl ?_
  refine G.seqK fun K290 hK291 => ?_
  refine G.seqK fun K292 hK293 => ?_
  refine G.region ?_
  refine GL.run (j := 2) 2 [3, 5, 6, 8, 9, 13] [(3, .slice A285 13 c286), (5, .int .u64 (wd x 3 : Int)), (6, .int .i64 1), (8, wv x), (9, .int .i64 3), (13, .bool true)] (by kernel_rfl) rfl ?_
  refine GL.k rfl hK293 (fun _ _ h => h) ?_
  refine G.yes rfl ?_
  refine G.skipK hK291 (fun _ _ h => h) ?_
  refine G.seqK fun K294 hK295 => ?_
  refine G.block ?_
  refine G.region ?_
  refine GL.run (j := 6) 6 [5, 6, 8, 9, 16, 21] [(5, .int .u64 (wd x 3 : Int)), (6, .int .i64 1), (8, wv x), (9, .int .i64 3), (16, .slice A285 13 c286), (21, .int .u64 (Int.tmod (Int.fdiv (wd x 3 : Int) (2 ^ 16)) 65536))] (by kernel_rfl) rfl ?_
  have e296 : (Int.fdiv (wd x 3 : Int) (2 ^ 16)) = (((wd x 3) / 2 ^ 16 : Nat) : Int) := n_shr _ 16
  have e297 : (Int.tmod (((wd x 3) / 2 ^ 16 : Nat) : Int) 65536) = ((((wd x 3) / 2 ^ 16) % 65536 : Nat) : Int) := n_rem _ 65536
  refine GL.eq (M' := [(5, .int .u64 (wd x 3 : Int)), (6, .int .i64 1), (8, wv x), (9, .int .i64 3), (16, .slice A285 13 c286), (21, .int .u64 ((((wd x 3) / 2 ^ 16) % 65536 : Nat) : Int))]) (by rw [e296, e297]) ?_
  clear e296 e297
  obtain ⟨p298, w299, r300, H301⟩ := H289.madeRow (P := Try.prog) (Instr.buildSlice 52 1 #[(0, .int .u64 ((((wd x 3) / 2 ^ 16) % 65536 : Nat) : Int))]) (fun b_ => .slice (some ⟨b_, 0, none⟩) 1 1) [.int .u64 ((((wd x 3) / 2 ^ 16) % 65536 : Nat) : Int)] 22 1 1 1 (by kernel_rfl) (by decide) (by decide) rfl
  have H301 : Hp w [] [.blk p3 [.int .u64 (wd x 0 : Int), .int .u64 (wd x 1 : Int), .int .u64 (wd x 2 : Int), .int .u64 (wd x 3 : Int)] 54, .row A285 13 c286 22 1 (dg [((wd x 0) / 2 ^ 0) % 65536, ((wd x 0) / 2 ^ 16) % 65536, ((wd x 0) / 2 ^ 32) % 65536, ((wd x 0) / 2 ^ 48) % 65536, ((wd x 1) / 2 ^ 0) % 65536, ((wd x 1) / 2 ^ 16) % 65536, ((wd x 1) / 2 ^ 32) % 65536, ((wd x 1) / 2 ^ 48) % 65536, ((wd x 2) / 2 ^ 0) % 65536, ((wd x 2) / 2 ^ 16) % 65536, ((wd x 2) / 2 ^ 32) % 65536, ((wd x 2) / 2 ^ 48) % 65536, ((wd x 3) / 2 ^ 0) % 65536]), .row (some ⟨p35, 0, none⟩) 1 1 22 1 (dg [((wd x 0) / 2 ^ 0) % 65536]), .row (some ⟨p52, 0, none⟩) 1 1 22 1 (dg [((wd x 0) / 2 ^ 16) % 65536]), .row (some ⟨p69, 0, none⟩) 1 1 22 1 (dg [((wd x 0) / 2 ^ 32) % 65536]), .row (some ⟨p86, 0, none⟩) 1 1 22 1 (dg [((wd x 0) / 2 ^ 48) % 65536]), .row (some ⟨p117, 0, none⟩) 1 1 22 1 (dg [((wd x 1) / 2 ^ 0) % 65536]), .row (some ⟨p134, 0, none⟩) 1 1 22 1 (dg [((wd x 1) / 2 ^ 16) % 65536]), .row (some ⟨p151, 0, none⟩) 1 1 22 1 (dg [((wd x 1) / 2 ^ 32) % 65536]), .row (some ⟨p168, 0, none⟩) 1 1 22 1 (dg [((wd x 1) / 2 ^ 48) % 65536]), .row (some ⟨p199, 0, none⟩) 1 1 22 1 (dg [((wd x 2) / 2 ^ 0) % 65536]), .row (some ⟨p216, 0, none⟩) 1 1 22 1 (dg [((wd x 2) / 2 ^ 16) % 65536]), .row (some ⟨p233, 0, none⟩) 1 1 22 1 (dg [((wd x 2) / 2 ^ 32) % 65536]), .row (some ⟨p250, 0, none⟩) 1 1 22 1 (dg [((wd x 2) / 2 ^ 48) % 65536]), .row (some ⟨p281, 0, none⟩) 1 1 22 1 (dg [((wd x 3) / 2 ^ 0) % 65536]), .row (some ⟨p298, 0, none⟩) 1 1 22 1 (dg [((wd x 3) / 2 ^ 16) % 65536])] w299 := H301
  refine GL.sem (j := 7) (r300) [5, 6, 8, 9, 16, 22] [(5, .int .u64 (wd x 3 : Int)), (6, .int .i64 1), (8, wv x), (9, .int .i64 3), (16, .slice A285 13 c286), (22, .slice (some ⟨p298, 0, none⟩) 1 1)] (by kernel_rfl) (by kernel_rfl) rfl ?_
  obtain ⟨A302, c303, w304, r305, H306⟩ := H301.append (P := Try.prog) (e := 22) (sz := 1) (by_ := 8) (n := 13) (c := c286) (m := 1) (d := 1) (t := 52) (ty := 52) (xs := dg [((wd x 0) / 2 ^ 0) % 65536, ((wd x 0) / 2 ^ 16) % 65536, ((wd x 0) / 2 ^ 32) % 65536, ((wd x 0) / 2 ^ 48) % 65536, ((wd x 1) / 2 ^ 0) % 65536, ((wd x 1) / 2 ^ 16) % 65536, ((wd x 1) / 2 ^ 32) % 65536, ((wd x 1) / 2 ^ 48) % 65536, ((wd x 2) / 2 ^ 0) % 65536, ((wd x 2) / 2 ^ 16) % 65536, ((wd x 2) / 2 ^ 32) % 65536, ((wd x 2) / 2 ^ 48) % 65536, ((wd x 3) / 2 ^ 0) % 65536]) (news := dg [((wd x 3) / 2 ^ 16) % 65536]) 1 rfl (by kernel_rfl) (H301.rdRow 15 rfl) (by simp [dg_length]) (dg_one _) (by omega) (by simp only [maxLen]; omega)
  have H306 : Hp w [] [.blk p3 [.int .u64 (wd x 0 : Int), .int .u64 (wd x 1 : Int), .int .u64 (wd x 2 : Int), .int .u64 (wd x 3 : Int)] 54, .row A302 14 c303 22 1 (dg [((wd x 0) / 2 ^ 0) % 65536, ((wd x 0) / 2 ^ 16) % 65536, ((wd x 0) / 2 ^ 32) % 65536, ((wd x 0) / 2 ^ 48) % 65536, ((wd x 1) / 2 ^ 0) % 65536, ((wd x 1) / 2 ^ 16) % 65536, ((wd x 1) / 2 ^ 32) % 65536, ((wd x 1) / 2 ^ 48) % 65536, ((wd x 2) / 2 ^ 0) % 65536, ((wd x 2) / 2 ^ 16) % 65536, ((wd x 2) / 2 ^ 32) % 65536, ((wd x 2) / 2 ^ 48) % 65536, ((wd x 3) / 2 ^ 0) % 65536, ((wd x 3) / 2 ^ 16) % 65536]), .row (some ⟨p35, 0, none⟩) 1 1 22 1 (dg [((wd x 0) / 2 ^ 0) % 65536]), .row (some ⟨p52, 0, none⟩) 1 1 22 1 (dg [((wd x 0) / 2 ^ 16) % 65536]), .row (some ⟨p69, 0, none⟩) 1 1 22 1 (dg [((wd x 0) / 2 ^ 32) % 65536]), .row (some ⟨p86, 0, none⟩) 1 1 22 1 (dg [((wd x 0) / 2 ^ 48) % 65536]), .row (some ⟨p117, 0, none⟩) 1 1 22 1 (dg [((wd x 1) / 2 ^ 0) % 65536]), .row (some ⟨p134, 0, none⟩) 1 1 22 1 (dg [((wd x 1) / 2 ^ 16) % 65536]), .row (some ⟨p151, 0, none⟩) 1 1 22 1 (dg [((wd x 1) / 2 ^ 32) % 65536]), .row (some ⟨p168, 0, none⟩) 1 1 22 1 (dg [((wd x 1) / 2 ^ 48) % 65536]), .row (some ⟨p199, 0, none⟩) 1 1 22 1 (dg [((wd x 2) / 2 ^ 0) % 65536]), .row (some ⟨p216, 0, none⟩) 1 1 22 1 (dg [((wd x 2) / 2 ^ 16) % 65536]), .row (some ⟨p233, 0, none⟩) 1 1 22 1 (dg [((wd x 2) / 2 ^ 32) % 65536]), .row (some ⟨p250, 0, none⟩) 1 1 22 1 (dg [((wd x 2) / 2 ^ 48) % 65536]), .row (some ⟨p281, 0, none⟩) 1 1 22 1 (dg [((wd x 3) / 2 ^ 0) % 65536]), .row (some ⟨p298, 0, none⟩) 1 1 22 1 (dg [((wd x 3) / 2 ^ 16) % 65536])] w304 := H306
  refine GL.sem (j := 8) (r305) [5, 6, 8, 9, 23] [(5, .int .u64 (wd x 3 : Int)), (6, .int .i64 1), (8, wv x), (9, .int .i64 3), (23, .slice A302 14 c303)] (by kernel_rfl) (by kernel_rfl) rfl ?_
  refine GL.run (j := 9) 1 [3, 5, 6, 8, 9] [(3, .slice A302 14 c303), (5, .int .u64 (wd x 3 : Int)), (6, .int .i64 1), (8, wv x), (9, .int .i64 3)] (by kernel_rfl) rfl ?_
  refine GL.k rfl hK295 (fun _ _ h => h) ?_
  refine G.region ?_
  refine GL.run (j := 3) 3 [3, 5, 6, 8, 9] [(3, .slice A302 14 c303), (5, .int .u64 (wd x 3 : Int)), (6, .int .i64 2), (8, wv x), (9, .int .i64 3)] (by kernel_rfl) rfl ?_
  refine GL.round rfl ?_
  refine G.seqK fun K307 hK308 => ?_
  refine G.seqK fun K309 hK310 => ?_
  refine G.region ?_
  refine GL.run (j := 2) 2 [3, 5, 6, 8, 9, 13] [(3, .slice A302 14 c303), (5, .int .u64 (wd x 3 : Int)), (6, .int .i64 2), (8, wv x), (9, .int .i64 3), (13, .bool true)] (by kernel_rfl) rfl ?_
  refine GL.k rfl hK310 (fun _ _ h => h) ?_
  refine G.yes rfl ?_
  refine G.skipK hK308 (fun _ _ h => h) ?_
  refine G.seqK fun K311 hK312 => ?_
  refine G.block ?_
  refine G.region ?_
  refine GL.run (j := 6) 6 [5, 6, 8, 9, 16, 21] [(5, .int .u64 (wd x 3 : Int)), (6, .int .i64 2), (8, wv x), (9, .int .i64 3), (16, .slice A302 14 c303), (21, .int .u64 (Int.tmod (Int.fdiv (wd x 3 : Int) (2 ^ 32)) 65536))] (by kernel_rfl) rfl ?_
  have e313 : (Int.fdiv (wd x 3 : Int) (2 ^ 32)) = (((wd x 3) / 2 ^ 32 : Nat) : Int) := n_shr _ 32
  have e314 : (Int.tmod (((wd x 3) / 2 ^ 32 : Nat) : Int) 65536) = ((((wd x 3) / 2 ^ 32) % 65536 : Nat) : Int) := n_rem _ 65536
  refine GL.eq (M' := [(5, .int .u64 (wd x 3 : Int)), (6, .int .i64 2), (8, wv x), (9, .int .i64 3), (16, .slice A302 14 c303), (21, .int .u64 ((((wd x 3) / 2 ^ 32) % 65536 : Nat) : Int))]) (by rw [e313, e314]) ?_
  clear e313 e314
  obtain ⟨p315, w316, r317, H318⟩ := H306.madeRow (P := Try.prog) (Instr.buildSlice 52 1 #[(0, .int .u64 ((((wd x 3) / 2 ^ 32) % 65536 : Nat) : Int))]) (fun b_ => .slice (some ⟨b_, 0, none⟩) 1 1) [.int .u64 ((((wd x 3) / 2 ^ 32) % 65536 : Nat) : Int)] 22 1 1 1 (by kernel_rfl) (by decide) (by decide) rfl
  have H318 : Hp w [] [.blk p3 [.int .u64 (wd x 0 : Int), .int .u64 (wd x 1 : Int), .int .u64 (wd x 2 : Int), .int .u64 (wd x 3 : Int)] 54, .row A302 14 c303 22 1 (dg [((wd x 0) / 2 ^ 0) % 65536, ((wd x 0) / 2 ^ 16) % 65536, ((wd x 0) / 2 ^ 32) % 65536, ((wd x 0) / 2 ^ 48) % 65536, ((wd x 1) / 2 ^ 0) % 65536, ((wd x 1) / 2 ^ 16) % 65536, ((wd x 1) / 2 ^ 32) % 65536, ((wd x 1) / 2 ^ 48) % 65536, ((wd x 2) / 2 ^ 0) % 65536, ((wd x 2) / 2 ^ 16) % 65536, ((wd x 2) / 2 ^ 32) % 65536, ((wd x 2) / 2 ^ 48) % 65536, ((wd x 3) / 2 ^ 0) % 65536, ((wd x 3) / 2 ^ 16) % 65536]), .row (some ⟨p35, 0, none⟩) 1 1 22 1 (dg [((wd x 0) / 2 ^ 0) % 65536]), .row (some ⟨p52, 0, none⟩) 1 1 22 1 (dg [((wd x 0) / 2 ^ 16) % 65536]), .row (some ⟨p69, 0, none⟩) 1 1 22 1 (dg [((wd x 0) / 2 ^ 32) % 65536]), .row (some ⟨p86, 0, none⟩) 1 1 22 1 (dg [((wd x 0) / 2 ^ 48) % 65536]), .row (some ⟨p117, 0, none⟩) 1 1 22 1 (dg [((wd x 1) / 2 ^ 0) % 65536]), .row (some ⟨p134, 0, none⟩) 1 1 22 1 (dg [((wd x 1) / 2 ^ 16) % 65536]), .row (some ⟨p151, 0, none⟩) 1 1 22 1 (dg [((wd x 1) / 2 ^ 32) % 65536]), .row (some ⟨p168, 0, none⟩) 1 1 22 1 (dg [((wd x 1) / 2 ^ 48) % 65536]), .row (some ⟨p199, 0, none⟩) 1 1 22 1 (dg [((wd x 2) / 2 ^ 0) % 65536]), .row (some ⟨p216, 0, none⟩) 1 1 22 1 (dg [((wd x 2) / 2 ^ 16) % 65536]), .row (some ⟨p233, 0, none⟩) 1 1 22 1 (dg [((wd x 2) / 2 ^ 32) % 65536]), .row (some ⟨p250, 0, none⟩) 1 1 22 1 (dg [((wd x 2) / 2 ^ 48) % 65536]), .row (some ⟨p281, 0, none⟩) 1 1 22 1 (dg [((wd x 3) / 2 ^ 0) % 65536]), .row (some ⟨p298, 0, none⟩) 1 1 22 1 (dg [((wd x 3) / 2 ^ 16) % 65536]), .row (some ⟨p315, 0, none⟩) 1 1 22 1 (dg [((wd x 3) / 2 ^ 32) % 65536])] w316 := H318
  refine GL.sem (j := 7) (r317) [5, 6, 8, 9, 16, 22] [(5, .int .u64 (wd x 3 : Int)), (6, .int .i64 2), (8, wv x), (9, .int .i64 3), (16, .slice A302 14 c303), (22, .slice (some ⟨p315, 0, none⟩) 1 1)] (by kernel_rfl) (by kernel_rfl) rfl ?_
  obtain ⟨A319, c320, w321, r322, H323⟩ := H318.append (P := Try.prog) (e := 22) (sz := 1) (by_ := 8) (n := 14) (c := c303) (m := 1) (d := 1) (t := 52) (ty := 52) (xs := dg [((wd x 0) / 2 ^ 0) % 65536, ((wd x 0) / 2 ^ 16) % 65536, ((wd x 0) / 2 ^ 32) % 65536, ((wd x 0) / 2 ^ 48) % 65536, ((wd x 1) / 2 ^ 0) % 65536, ((wd x 1) / 2 ^ 16) % 65536, ((wd x 1) / 2 ^ 32) % 65536, ((wd x 1) / 2 ^ 48) % 65536, ((wd x 2) / 2 ^ 0) % 65536, ((wd x 2) / 2 ^ 16) % 65536, ((wd x 2) / 2 ^ 32) % 65536, ((wd x 2) / 2 ^ 48) % 65536, ((wd x 3) / 2 ^ 0) % 65536, ((wd x 3) / 2 ^ 16) % 65536]) (news := dg [((wd x 3) / 2 ^ 32) % 65536]) 1 rfl (by kernel_rfl) (H318.rdRow 16 rfl) (by simp [dg_length]) (dg_one _) (by omega) (by simp only [maxLen]; omega)
  have H323 : Hp w [] [.blk p3 [.int .u64 (wd x 0 : Int), .int .u64 (wd x 1 : Int), .int .u64 (wd x 2 : Int), .int .u64 (wd x 3 : Int)] 54, .row A319 15 c320 22 1 (dg [((wd x 0) / 2 ^ 0) % 65536, ((wd x 0) / 2 ^ 16) % 65536, ((wd x 0) / 2 ^ 32) % 65536, ((wd x 0) / 2 ^ 48) % 65536, ((wd x 1) / 2 ^ 0) % 65536, ((wd x 1) / 2 ^ 16) % 65536, ((wd x 1) / 2 ^ 32) % 65536, ((wd x 1) / 2 ^ 48) % 65536, ((wd x 2) / 2 ^ 0) % 65536, ((wd x 2) / 2 ^ 16) % 65536, ((wd x 2) / 2 ^ 32) % 65536, ((wd x 2) / 2 ^ 48) % 65536, ((wd x 3) / 2 ^ 0) % 65536, ((wd x 3) / 2 ^ 16) % 65536, ((wd x 3) / 2 ^ 32) % 65536]), .row (some ⟨p35, 0, none⟩) 1 1 22 1 (dg [((wd x 0) / 2 ^ 0) % 65536]), .row (some ⟨p52, 0, none⟩) 1 1 22 1 (dg [((wd x 0) / 2 ^ 16) % 65536]), .row (some ⟨p69, 0, none⟩) 1 1 22 1 (dg [((wd x 0) / 2 ^ 32) % 65536]), .row (some ⟨p86, 0, none⟩) 1 1 22 1 (dg [((wd x 0) / 2 ^ 48) % 65536]), .row (some ⟨p117, 0, none⟩) 1 1 22 1 (dg [((wd x 1) / 2 ^ 0) % 65536]), .row (some ⟨p134, 0, none⟩) 1 1 22 1 (dg [((wd x 1) / 2 ^ 16) % 65536]), .row (some ⟨p151, 0, none⟩) 1 1 22 1 (dg [((wd x 1) / 2 ^ 32) % 65536]), .row (some ⟨p168, 0, none⟩) 1 1 22 1 (dg [((wd x 1) / 2 ^ 48) % 65536]), .row (some ⟨p199, 0, none⟩) 1 1 22 1 (dg [((wd x 2) / 2 ^ 0) % 65536]), .row (some ⟨p216, 0, none⟩) 1 1 22 1 (dg [((wd x 2) / 2 ^ 16) % 65536]), .row (some ⟨p233, 0, none⟩) 1 1 22 1 (dg [((wd x 2) / 2 ^ 32) % 65536]), .row (some ⟨p250, 0, none⟩) 1 1 22 1 (dg [((wd x 2) / 2 ^ 48) % 65536]), .row (some ⟨p281, 0, none⟩) 1 1 22 1 (dg [((wd x 3) / 2 ^ 0) % 65536]), .row (some ⟨p298, 0, none⟩) 1 1 22 1 (dg [((wd x 3) / 2 ^ 16) % 65536]), .row (some ⟨p315, 0, none⟩) 1 1 22 1 (dg [((wd x 3) / 2 ^ 32) % 65536])] w321 := H323
  refine GL.sem (j := 8) (r322) [5, 6, 8, 9, 23] [(5, .int .u64 (wd x 3 : Int)), (6, .int .i64 2), (8, wv x), (9, .int .i64 3), (23, .slice A319 15 c320)] (by kernel_rfl) (by kernel_rfl) rfl ?_
  refine GL.run (j := 9) 1 [3, 5, 6, 8, 9] [(3, .slice A319 15 c320), (5, .int .u64 (wd x 3 : Int)), (6, .int .i64 2), (8, wv x), (9, .int .i64 3)] (by kernel_rfl) rfl ?_
  refine GL.k rfl hK312 (fun _ _ h => h) ?_
  refine G.region ?_
  refine GL.run (j := 3) 3 [3, 5, 6, 8, 9] [(3, .slice A319 15 c320), (5, .int .u64 (wd x 3 : Int)), (6, .int .i64 3), (8, wv x), (9, .int .i64 3)] (by kernel_rfl) rfl ?_
  refine GL.round rfl ?_
  refine G.seqK fun K324 hK325 => ?_
  refine G.seqK fun K326 hK327 => ?_
  refine G.region ?_
  refine GL.run (j := 2) 2 [3, 5, 6, 8, 9, 13] [(3, .slice A319 15 c320), (5, .int .u64 (wd x 3 : Int)), (6, .int .i64 3), (8, wv x), (9, .int .i64 3), (13, .bool true)] (by kernel_rfl) rfl ?_
  refine GL.k rfl hK327 (fun _ _ h => h) ?_
  refine G.yes rfl ?_
  refine G.skipK hK325 (fun _ _ h => h) ?_
  refine G.seqK fun K328 hK329 => ?_
  refine G.block ?_
  refine G.region ?_
  refine GL.run (j := 6) 6 [5, 6, 8, 9, 16, 21] [(5, .int .u64 (wd x 3 : Int)), (6, .int .i64 3), (8, wv x), (9, .int .i64 3), (16, .slice A319 15 c320), (21, .int .u64 (Int.tmod (Int.fdiv (wd x 3 : Int) (2 ^ 48)) 65536))] (by kernel_rfl) rfl ?_
  have e330 : (Int.fdiv (wd x 3 : Int) (2 ^ 48)) = (((wd x 3) / 2 ^ 48 : Nat) : Int) := n_shr _ 48
  have e331 : (Int.tmod (((wd x 3) / 2 ^ 48 : Nat) : Int) 65536) = ((((wd x 3) / 2 ^ 48) % 65536 : Nat) : Int) := n_rem _ 65536
  refine GL.eq (M' := [(5, .int .u64 (wd x 3 : Int)), (6, .int .i64 3), (8, wv x), (9, .int .i64 3), (16, .slice A319 15 c320), (21, .int .u64 ((((wd x 3) / 2 ^ 48) % 65536 : Nat) : Int))]) (by rw [e330, e331]) ?_
  clear e330 e331
  obtain ⟨p332, w333, r334, H335⟩ := H323.madeRow (P := Try.prog) (Instr.buildSlice 52 1 #[(0, .int .u64 ((((wd x 3) / 2 ^ 48) % 65536 : Nat) : Int))]) (fun b_ => .slice (some ⟨b_, 0, none⟩) 1 1) [.int .u64 ((((wd x 3) / 2 ^ 48) % 65536 : Nat) : Int)] 22 1 1 1 (by kernel_rfl) (by decide) (by decide) rfl
  have H335 : Hp w [] [.blk p3 [.int .u64 (wd x 0 : Int), .int .u64 (wd x 1 : Int), .int .u64 (wd x 2 : Int), .int .u64 (wd x 3 : Int)] 54, .row A319 15 c320 22 1 (dg [((wd x 0) / 2 ^ 0) % 65536, ((wd x 0) / 2 ^ 16) % 65536, ((wd x 0) / 2 ^ 32) % 65536, ((wd x 0) / 2 ^ 48) % 65536, ((wd x 1) / 2 ^ 0) % 65536, ((wd x 1) / 2 ^ 16) % 65536, ((wd x 1) / 2 ^ 32) % 65536, ((wd x 1) / 2 ^ 48) % 65536, ((wd x 2) / 2 ^ 0) % 65536, ((wd x 2) / 2 ^ 16) % 65536, ((wd x 2) / 2 ^ 32) % 65536, ((wd x 2) / 2 ^ 48) % 65536, ((wd x 3) / 2 ^ 0) % 65536, ((wd x 3) / 2 ^ 16) % 65536, ((wd x 3) / 2 ^ 32) % 65536]), .row (some ⟨p35, 0, none⟩) 1 1 22 1 (dg [((wd x 0) / 2 ^ 0) % 65536]), .row (some ⟨p52, 0, none⟩) 1 1 22 1 (dg [((wd x 0) / 2 ^ 16) % 65536]), .row (some ⟨p69, 0, none⟩) 1 1 22 1 (dg [((wd x 0) / 2 ^ 32) % 65536]), .row (some ⟨p86, 0, none⟩) 1 1 22 1 (dg [((wd x 0) / 2 ^ 48) % 65536]), .row (some ⟨p117, 0, none⟩) 1 1 22 1 (dg [((wd x 1) / 2 ^ 0) % 65536]), .row (some ⟨p134, 0, none⟩) 1 1 22 1 (dg [((wd x 1) / 2 ^ 16) % 65536]), .row (some ⟨p151, 0, none⟩) 1 1 22 1 (dg [((wd x 1) / 2 ^ 32) % 65536]), .row (some ⟨p168, 0, none⟩) 1 1 22 1 (dg [((wd x 1) / 2 ^ 48) % 65536]), .row (some ⟨p199, 0, none⟩) 1 1 22 1 (dg [((wd x 2) / 2 ^ 0) % 65536]), .row (some ⟨p216, 0, none⟩) 1 1 22 1 (dg [((wd x 2) / 2 ^ 16) % 65536]), .row (some ⟨p233, 0, none⟩) 1 1 22 1 (dg [((wd x 2) / 2 ^ 32) % 65536]), .row (some ⟨p250, 0, none⟩) 1 1 22 1 (dg [((wd x 2) / 2 ^ 48) % 65536]), .row (some ⟨p281, 0, none⟩) 1 1 22 1 (dg [((wd x 3) / 2 ^ 0) % 65536]), .row (some ⟨p298, 0, none⟩) 1 1 22 1 (dg [((wd x 3) / 2 ^ 16) % 65536]), .row (some ⟨p315, 0, none⟩) 1 1 22 1 (dg [((wd x 3) / 2 ^ 32) % 65536]), .row (some ⟨p332, 0, none⟩) 1 1 22 1 (dg [((wd x 3) / 2 ^ 48) % 65536])] w333 := H335
  refine GL.sem (j := 7) (r334) [5, 6, 8, 9, 16, 22] [(5, .int .u64 (wd x 3 : Int)), (6, .int .i64 3), (8, wv x), (9, .int .i64 3), (16, .slice A319 15 c320), (22, .slice (some ⟨p332, 0, none⟩) 1 1)] (by kernel_rfl) (by kernel_rfl) rfl ?_
  obtain ⟨A336, c337, w338, r339, H340⟩ := H335.append (P := Try.prog) (e := 22) (sz := 1) (by_ := 8) (n := 15) (c := c320) (m := 1) (d := 1) (t := 52) (ty := 52) (xs := dg [((wd x 0) / 2 ^ 0) % 65536, ((wd x 0) / 2 ^ 16) % 65536, ((wd x 0) / 2 ^ 32) % 65536, ((wd x 0) / 2 ^ 48) % 65536, ((wd x 1) / 2 ^ 0) % 65536, ((wd x 1) / 2 ^ 16) % 65536, ((wd x 1) / 2 ^ 32) % 65536, ((wd x 1) / 2 ^ 48) % 65536, ((wd x 2) / 2 ^ 0) % 65536, ((wd x 2) / 2 ^ 16) % 65536, ((wd x 2) / 2 ^ 32) % 65536, ((wd x 2) / 2 ^ 48) % 65536, ((wd x 3) / 2 ^ 0) % 65536, ((wd x 3) / 2 ^ 16) % 65536, ((wd x 3) / 2 ^ 32) % 65536]) (news := dg [((wd x 3) / 2 ^ 48) % 65536]) 1 rfl (by kernel_rfl) (H335.rdRow 17 rfl) (by simp [dg_length]) (dg_one _) (by omega) (by simp only [maxLen]; omega)
  have H340 : Hp w [] [.blk p3 [.int .u64 (wd x 0 : Int), .int .u64 (wd x 1 : Int), .int .u64 (wd x 2 : Int), .int .u64 (wd x 3 : Int)] 54, .row A336 16 c337 22 1 (dg [((wd x 0) / 2 ^ 0) % 65536, ((wd x 0) / 2 ^ 16) % 65536, ((wd x 0) / 2 ^ 32) % 65536, ((wd x 0) / 2 ^ 48) % 65536, ((wd x 1) / 2 ^ 0) % 65536, ((wd x 1) / 2 ^ 16) % 65536, ((wd x 1) / 2 ^ 32) % 65536, ((wd x 1) / 2 ^ 48) % 65536, ((wd x 2) / 2 ^ 0) % 65536, ((wd x 2) / 2 ^ 16) % 65536, ((wd x 2) / 2 ^ 32) % 65536, ((wd x 2) / 2 ^ 48) % 65536, ((wd x 3) / 2 ^ 0) % 65536, ((wd x 3) / 2 ^ 16) % 65536, ((wd x 3) / 2 ^ 32) % 65536, ((wd x 3) / 2 ^ 48) % 65536]), .row (some ⟨p35, 0, none⟩) 1 1 22 1 (dg [((wd x 0) / 2 ^ 0) % 65536]), .row (some ⟨p52, 0, none⟩) 1 1 22 1 (dg [((wd x 0) / 2 ^ 16) % 65536]), .row (some ⟨p69, 0, none⟩) 1 1 22 1 (dg [((wd x 0) / 2 ^ 32) % 65536]), .row (some ⟨p86, 0, none⟩) 1 1 22 1 (dg [((wd x 0) / 2 ^ 48) % 65536]), .row (some ⟨p117, 0, none⟩) 1 1 22 1 (dg [((wd x 1) / 2 ^ 0) % 65536]), .row (some ⟨p134, 0, none⟩) 1 1 22 1 (dg [((wd x 1) / 2 ^ 16) % 65536]), .row (some ⟨p151, 0, none⟩) 1 1 22 1 (dg [((wd x 1) / 2 ^ 32) % 65536]), .row (some ⟨p168, 0, none⟩) 1 1 22 1 (dg [((wd x 1) / 2 ^ 48) % 65536]), .row (some ⟨p199, 0, none⟩) 1 1 22 1 (dg [((wd x 2) / 2 ^ 0) % 65536]), .row (some ⟨p216, 0, none⟩) 1 1 22 1 (dg [((wd x 2) / 2 ^ 16) % 65536]), .row (some ⟨p233, 0, none⟩) 1 1 22 1 (dg [((wd x 2) / 2 ^ 32) % 65536]), .row (some ⟨p250, 0, none⟩) 1 1 22 1 (dg [((wd x 2) / 2 ^ 48) % 65536]), .row (some ⟨p281, 0, none⟩) 1 1 22 1 (dg [((wd x 3) / 2 ^ 0) % 65536]), .row (some ⟨p298, 0, none⟩) 1 1 22 1 (dg [((wd x 3) / 2 ^ 16) % 65536]), .row (some ⟨p315, 0, none⟩) 1 1 22 1 (dg [((wd x 3) / 2 ^ 32) % 65536]), .row (some ⟨p332, 0, none⟩) 1 1 22 1 (dg [((wd x 3) / 2 ^ 48) % 65536])] w338 := H340
  refine GL.sem (j := 8) (r339) [5, 6, 8, 9, 23] [(5, .int .u64 (wd x 3 : Int)), (6, .int .i64 3), (8, wv x), (9, .int .i64 3), (23, .slice A336 16 c337)] (by kernel_rfl) (by kernel_rfl) rfl ?_
  refine GL.run (j := 9) 1 [3, 5, 6, 8, 9] [(3, .slice A336 16 c337), (5, .int .u64 (wd x 3 : Int)), (6, .int .i64 3), (8, wv x), (9, .int .i64 3)] (by kernel_rfl) rfl ?_
  refine GL.k rfl hK329 (fun _ _ h => h) ?_
  refine G.region ?_
  refine GL.run (j := 3) 3 [3, 5, 6, 8, 9] [(3, .slice A336 16 c337), (5, .int .u64 (wd x 3 : Int)), (6, .int .i64 4), (8, wv x), (9, .int .i64 3)] (by kernel_rfl) rfl ?_
  refine GL.round rfl ?_
  refine G.seqK fun K341 hK342 => ?_
  refine G.seqK fun K343 hK344 => ?_
  refine G.region ?_
  refine GL.run (j := 2) 2 [3, 5, 6, 8, 9, 13] [(3, .slice A336 16 c337), (5, .int .u64 (wd x 3 : Int)), (6, .int .i64 4), (8, wv x), (9, .int .i64 3), (13, .bool false)] (by kernel_rfl) rfl ?_
  refine GL.k rfl hK344 (fun _ _ h => h) ?_
  refine G.no rfl ?_
  refine G.exitK hK268 (fun _ _ h => h) ?_
  refine G.region ?_
  refine GL.run (j := 2) 2 [3, 8, 9] [(3, .slice A336 16 c337), (8, wv x), (9, .int .i64 4)] (by kernel_rfl) rfl ?_
  refine GL.round rfl ?_
  refine G.seqK fun K345 hK346 => ?_
  refine G.region ?_
  refine GL.run (j := 1) 1 [3, 8, 9, 10] [(3, .slice A336 16 c337), (8, wv x), (9, .int .i64 4), (10, .bool false)] (by kernel_rfl) rfl ?_
  refine GL.k rfl hK346 (fun _ _ h => h) ?_
  refine G.seqK fun K347 hK348 => ?_
  refine G.no rfl ?_
  refine G.exitK hK14 (fun _ _ h => h) ?_
  refine G.seqK fun K349 hK350 => ?_
  refine G.region ?_
  refine GL.run (j := 1) 1 [25] [(25, .slice A336 16 c337)] (by kernel_rfl) rfl ?_
  have hw := words_digs hx (ds := [((wd x 0) / 2 ^ 0) % 65536, ((wd x 0) / 2 ^ 16) % 65536, ((wd x 0) / 2 ^ 32) % 65536, ((wd x 0) / 2 ^ 48) % 65536, ((wd x 1) / 2 ^ 0) % 65536, ((wd x 1) / 2 ^ 16) % 65536, ((wd x 1) / 2 ^ 32) % 65536, ((wd x 1) / 2 ^ 48) % 65536, ((wd x 2) / 2 ^ 0) % 65536, ((wd x 2) / 2 ^ 16) % 65536, ((wd x 2) / 2 ^ 32) % 65536, ((wd x 2) / 2 ^ 48) % 65536, ((wd x 3) / 2 ^ 0) % 65536, ((wd x 3) / 2 ^ 16) % 65536, ((wd x 3) / 2 ^ 32) % 65536, ((wd x 3) / 2 ^ 48) % 65536]) rfl
  refine GL.call (j := 2) (trim_calls [((wd x 0) / 2 ^ 0) % 65536, ((wd x 0) / 2 ^ 16) % 65536, ((wd x 0) / 2 ^ 32) % 65536, ((wd x 0) / 2 ^ 48) % 65536, ((wd x 1) / 2 ^ 0) % 65536, ((wd x 1) / 2 ^ 16) % 65536, ((wd x 1) / 2 ^ 32) % 65536, ((wd x 1) / 2 ^ 48) % 65536, ((wd x 2) / 2 ^ 0) % 65536, ((wd x 2) / 2 ^ 16) % 65536, ((wd x 2) / 2 ^ 32) % 65536, ((wd x 2) / 2 ^ 48) % 65536, ((wd x 3) / 2 ^ 0) % 65536, ((wd x 3) / 2 ^ 16) % 65536, ((wd x 3) / 2 ^ 32) % 65536, ((wd x 3) / 2 ^ 48) % 65536] 16 (rfl) A336 c337 w338 (H340.rdRow 1 rfl) (hw.2) (H340.rowLe 1 rfl).1 (by omega)) (by kernel_rfl) rfl (fun e_ w351 hR => ?_)
  obtain ⟨rfl, H353⟩ := hR
  have H352 := (H340.callNil H353).shrinkD 1 rfl (rfl) (hw.2)
  rw [hw.1] at H352
  rw [hw.1]
  have H352 : Hp w [] [.blk p3 [.int .u64 (wd x 0 : Int), .int .u64 (wd x 1 : Int), .int .u64 (wd x 2 : Int), .int .u64 (wd x 3 : Int)] 54, .row A336 (ndg x) c337 22 1 (dg (digs x)), .row (some ⟨p35, 0, none⟩) 1 1 22 1 (dg [((wd x 0) / 2 ^ 0) % 65536]), .row (some ⟨p52, 0, none⟩) 1 1 22 1 (dg [((wd x 0) / 2 ^ 16) % 65536]), .row (some ⟨p69, 0, none⟩) 1 1 22 1 (dg [((wd x 0) / 2 ^ 32) % 65536]), .row (some ⟨p86, 0, none⟩) 1 1 22 1 (dg [((wd x 0) / 2 ^ 48) % 65536]), .row (some ⟨p117, 0, none⟩) 1 1 22 1 (dg [((wd x 1) / 2 ^ 0) % 65536]), .row (some ⟨p134, 0, none⟩) 1 1 22 1 (dg [((wd x 1) / 2 ^ 16) % 65536]), .row (some ⟨p151, 0, none⟩) 1 1 22 1 (dg [((wd x 1) / 2 ^ 32) % 65536]), .row (some ⟨p168, 0, none⟩) 1 1 22 1 (dg [((wd x 1) / 2 ^ 48) % 65536]), .row (some ⟨p199, 0, none⟩) 1 1 22 1 (dg [((wd x 2) / 2 ^ 0) % 65536]), .row (some ⟨p216, 0, none⟩) 1 1 22 1 (dg [((wd x 2) / 2 ^ 16) % 65536]), .row (some ⟨p233, 0, none⟩) 1 1 22 1 (dg [((wd x 2) / 2 ^ 32) % 65536]), .row (some ⟨p250, 0, none⟩) 1 1 22 1 (dg [((wd x 2) / 2 ^ 48) % 65536]), .row (some ⟨p281, 0, none⟩) 1 1 22 1 (dg [((wd x 3) / 2 ^ 0) % 65536]), .row (some ⟨p298, 0, none⟩) 1 1 22 1 (dg [((wd x 3) / 2 ^ 16) % 65536]), .row (some ⟨p315, 0, none⟩) 1 1 22 1 (dg [((wd x 3) / 2 ^ 32) % 65536]), .row (some ⟨p332, 0, none⟩) 1 1 22 1 (dg [((wd x 3) / 2 ^ 48) % 65536])] w351 := H352
  refine ⟨_, rfl, [26], [(26, .slice A336 (ndg x) c337)], by kernel_rfl, ?_⟩
  refine GL.run (j := 3) 1 [2] [(2, .slice A336 (ndg x) c337)] (by kernel_rfl) rfl ?_
  refine GL.k rfl hK350 (fun _ _ h => h) ?_
  refine G.ret ?_
  intro F_ hF_ hM_
  refine hRet _ _ (bodyPost_1 rfl (RV.tmp rfl) ?_ F_ hF_ hM_)
  have H354 : Hp w [] [.row A336 (ndg x) c337 22 1 (dg (digs x))] w351 := H352.sub (List.Sublist.cons _ (List.Sublist.cons_cons _ (List.Sublist.cons _ (List.Sublist.cons _ (List.Sublist.cons _ (List.Sublist.cons _ (List.Sublist.cons _ (List.Sublist.cons _ (List.Sublist.cons _ (List.Sublist.cons _ (List.Sublist.cons _ (List.Sublist.cons _ (List.Sublist.cons _ (List.Sublist.cons _ (List.Sublist.cons _ (List.Sublist.cons _ (List.Sublist.cons _ (List.Sublist.cons _ (List.Sublist.slnil)))))))))))))))))))
  exact ⟨_, _, rfl, H354⟩
theorem Of1_calls_n (x : Nat) (hx : x < K) (w : World) : Calls Try.prog 32 #[.agg #[.int .u64 (x : Int), .int .u64 0, .int .u64 0, .int .u64 0]] w fun e w' => ∃ A c, e = .returned ((.slice A (ndg x) c)) ∧ Hp w [] [.row A (ndg x) c 22 1 (dg (digs x))] w' := by
  rw [of_fin hx]
  exact Of_calls_n x (Nat.lt_trans hx (by decide)) w
theorem CmpN_calls (a b : Nat) (A B : Option Addr) (c d : Nat) (w : World) (hr : RdS w A (dg (digs a))) (hs : RdS w B (dg (digs b))) (hna : ndg a ≤ 1000000) (hnb : ndg b ≤ 1000000) : Calls Try.prog 15 #[.slice A (ndg a) c, .slice B (ndg b) d] w fun e w' => e = .returned (.int .i64 (cmpN a b)) ∧ Hp w [] [] w' := by
  refine calls_G (args := [.slice A (ndg a) c, .slice B (ndg b) d]) Try.func15 rfl Try.ntmps15 rfl ?_
  intro Q0 hRet hNor hPan
  have H := Hp.start w
  have H : Hp w [] [] w := H
  refine G.seqK fun K1 hK2 => ?_
  refine G.region ?_
  refine GL.run (j := 1) 1 [0, 1] [(0, .slice A (ndg a) c), (1, .slice B (ndg b) d)] (by kernel_rfl) rfl ?_
  refine GL.k rfl hK2 (fun _ _ h => h) ?_
  refine G.seqK fun K3 hK4 => ?_
  refine G.seqK fun K5 hK6 => ?_
  refine G.region ?_
  refine GL.run (j := 7) 7 [0, 1, 5] [(0, .slice A (ndg a) c), (1, .slice B (ndg b) d), (5, .int .i64 (IntKind.i64.wrap ((if (((ndg b) : Nat) : Int) > (((ndg a) : Nat) : Int) then (((ndg b) : Nat) : Int) else (((ndg a) : Nat) : Int)) - 1)))] (by kernel_rfl) rfl ?_
  have e7 : (if (((ndg b) : Nat) : Int) > (((ndg a) : Nat) : Int) then (((ndg b) : Nat) : Int) else (((ndg a) : Nat) : Int)) = (((max (ndg a) (ndg b)) : Nat) : Int) := max_int (ndg a) (ndg b)
  have e8 : (IntKind.i64.wrap ((((max (ndg a) (ndg b)) : Nat) : Int) - 1)) = ((((max (ndg a) (ndg b)) : Nat) : Int) - 1) := in_i64 (by omega)
  refine GL.eq (M' := [(0, .slice A (ndg a) c), (1, .slice B (ndg b) d), (5, .int .i64 ((((max (ndg a) (ndg b)) : Nat) : Int) - 1))]) (by rw [e7, e8]) ?_
  clear e7 e8
  refine GL.k rfl hK6 (fun _ _ h => h) ?_
  refine G.block ?_
  refine G.fit [0, 1, 5] (M' := [(0, .slice A (ndg a) c), (1, .slice B (ndg b) d), (5, .int .i64 ((((max (ndg a) (ndg b)) : Nat) : Int) - 1))]) (by kernel_rfl) ?_
  refine G.loop (X := Nat) (fun m => [(0, .slice A (ndg a) c), (1, .slice B (ndg b) d), (5, .int .i64 (((m : Nat) : Int) - 1))]) (fun m w_ => (m ≤ 1000000 ∧ a / 65536 ^ m = b / 65536 ^ m) ∧ Hp w [] [] w_) (fun m => m) (max (ndg a) (ndg b)) [0, 1, 5] (by kernel_rfl) ⟨⟨by omega, by rw [Nat.div_eq_of_lt (ndg_le.1 (Nat.le_max_left _ _)), Nat.div_eq_of_lt (ndg_le.1 (Nat.le_max_right _ _))]⟩, H⟩ ?_
  rintro m w9 ⟨hi10, H11⟩
  refine G.eq (M' := [(0, .slice A (ndg a) c), (1, .slice B (ndg b) d), (5, .int .i64 (((m : Nat) : Int) - 1))]) rfl ?_
  have H11 : Hp w [] [] w9 := H11
  obtain ⟨hm, hv⟩ := hi10
  refine G.seqK fun K12 hK13 => ?_
  refine G.seqK fun K14 hK15 => ?_
  refine G.region ?_
  refine GL.run (j := 2) 2 [0, 1, 5, 15] [(0, .slice A (ndg a) c), (1, .slice B (ndg b) d), (5, .int .i64 (((m : Nat) : Int) - 1)), (15, .bool (decide (0 ≤ (((m : Nat) : Int) - 1))))] (by kernel_rfl) rfl ?_
  refine GL.k rfl hK15 (fun _ _ h => h) ?_
  cases hb16 : (decide (0 ≤ (((m : Nat) : Int) - 1)))
  · skip
    have hb16f := of_decide_eq_false hb16
    have hm0 : m = 0 := by omega
    refine G.no rfl ?_
    refine G.exitK hK4 (fun _ _ h => h) ?_
    refine G.seqK fun K17 hK18 => ?_
    refine G.region ?_
    refine GL.run (j := 1) 1 [4] [(4, .int .i64 0)] (by kernel_rfl) rfl ?_
    refine GL.k rfl hK18 (fun _ _ h => h) ?_
    refine G.ret ?_
    intro F_ hF_ hM_
    refine hRet _ _ (bodyPost_1 rfl (RV.tmp rfl) ?_ F_ hF_ hM_)
    rw [hm0, Nat.pow_zero, Nat.div_one, Nat.div_one] at hv
    rw [← cmp_eq hv]
    exact ⟨rfl, H11.sub (List.nil_sublist _)⟩
  · skip
    have hb16f := of_decide_eq_true hb16
    have hm0 : 0 < m := by omega
    have ei : (((m : Nat) : Int) - 1) = ((m - 1 : Nat) : Int) := by omega
    refine G.eq (M' := [(0, .slice A (ndg a) c), (1, .slice B (ndg b) d), (5, .int .i64 ((m - 1 : Nat) : Int)), (15, .bool true)]) (by rw [ei]) ?_
    refine G.yes rfl ?_
    refine G.skipK hK13 (fun _ _ h => h) ?_
    refine G.seqK fun K19 hK20 => ?_
    refine G.block ?_
    refine G.seqK fun K21 hK22 => ?_
    refine G.region ?_
    refine GL.run (j := 2) 2 [0, 1, 5, 18, 19] [(0, .slice A (ndg a) c), (1, .slice B (ndg b) d), (5, .int .i64 ((m - 1 : Nat) : Int)), (18, .slice A (ndg a) c), (19, .int .i64 ((m - 1 : Nat) : Int))] (by kernel_rfl) rfl ?_
    refine GL.call (j := 3) (digit_calls a (m - 1) A c w9 (hr.hp H11)) (by kernel_rfl) rfl (fun e_ w23 hR => ?_)
    obtain ⟨rfl, H25⟩ := hR
    have H24 : Hp w [] [] w23 := H11.callNil H25
    refine ⟨_, rfl, [0, 1, 5, 20], [(0, .slice A (ndg a) c), (1, .slice B (ndg b) d), (5, .int .i64 ((m - 1 : Nat) : Int)), (20, .int .u64 ((dgt a (m - 1)) : Int))], by kernel_rfl, ?_⟩
    refine GL.run (j := 5) 2 [0, 1, 5, 20, 21, 22] [(0, .slice A (ndg a) c), (1, .slice B (ndg b) d), (5, .int .i64 ((m - 1 : Nat) : Int)), (20, .int .u64 ((dgt a (m - 1)) : Int)), (21, .slice B (ndg b) d), (22, .int .i64 ((m - 1 : Nat) : Int))] (by kernel_rfl) rfl ?_
    refine GL.call (j := 6) (digit_calls b (m - 1) B d w23 (hs.hp H24)) (by kernel_rfl) rfl (fun e_ w26 hR => ?_)
    obtain ⟨rfl, H28⟩ := hR
    have H27 : Hp w [] [] w26 := H24.callNil H28
    refine ⟨_, rfl, [0, 1, 5, 20, 23], [(0, .slice A (ndg a) c), (1, .slice B (ndg b) d), (5, .int .i64 ((m - 1 : Nat) : Int)), (20, .int .u64 ((dgt a (m - 1)) : Int)), (23, .int .u64 ((dgt b (m - 1)) : Int))], by kernel_rfl, ?_⟩
    refine GL.run (j := 8) 2 [0, 1, 5, 6, 7] [(0, .slice A (ndg a) c), (1, .slice B (ndg b) d), (5, .int .i64 ((m - 1 : Nat) : Int)), (6, .int .u64 ((dgt a (m - 1)) : Int)), (7, .int .u64 ((dgt b (m - 1)) : Int))] (by kernel_rfl) rfl ?_
    refine GL.k rfl hK22 (fun _ _ h => h) ?_
    refine G.seqK fun K29 hK30 => ?_
    refine G.seqK fun K31 hK32 => ?_
    refine G.region ?_
    refine GL.run (j := 3) 3 [0, 1, 5, 6, 7, 26] [(0, .slice A (ndg a) c), (1, .slice B (ndg b) d), (5, .int .i64 ((m - 1 : Nat) : Int)), (6, .int .u64 ((dgt a (m - 1)) : Int)), (7, .int .u64 ((dgt b (m - 1)) : Int)), (26, .bool (decide (((dgt a (m - 1)) : Int) < ((dgt b (m - 1)) : Int))))] (by kernel_rfl) rfl ?_
    refine GL.k rfl hK32 (fun _ _ h => h) ?_
    cases hb33 : (decide (((dgt a (m - 1)) : Int) < ((dgt b (m - 1)) : Int)))
    · skip
      have hb33f := of_decide_eq_false hb33
      refine G.no rfl ?_
      refine G.skipK hK30 (fun _ _ h => h) ?_
      refine G.seqK fun K34 hK35 => ?_
      refine G.region ?_
      refine GL.run (j := 3) 3 [0, 1, 5, 29] [(0, .slice A (ndg a) c), (1, .slice B (ndg b) d), (5, .int .i64 ((m - 1 : Nat) : Int)), (29, .bool (decide (((dgt b (m - 1)) : Int) < ((dgt a (m - 1)) : Int))))] (by kernel_rfl) rfl ?_
      refine GL.k rfl hK35 (fun _ _ h => h) ?_
      cases hb36 : (decide (((dgt b (m - 1)) : Int) < ((dgt a (m - 1)) : Int)))
      · skip
        have hb36f := of_decide_eq_false hb36
        refine G.no rfl ?_
        refine G.skipK hK20 (fun _ _ h => h) ?_
        refine G.region ?_
        refine GL.run (j := 3) 3 [0, 1, 5] [(0, .slice A (ndg a) c), (1, .slice B (ndg b) d), (5, .int .i64 (IntKind.i64.wrap (((m - 1 : Nat) : Int) - 1)))] (by kernel_rfl) rfl ?_
        have e37 : (IntKind.i64.wrap (((m - 1 : Nat) : Int) - 1)) = (((m - 1 : Nat) : Int) - 1) := in_i64 (by omega)
        refine GL.eq (M' := [(0, .slice A (ndg a) c), (1, .slice B (ndg b) d), (5, .int .i64 (((m - 1 : Nat) : Int) - 1))]) (by rw [e37]) ?_
        clear e37
        refine GL.fit (ts := [0, 1, 5]) (M' := [(0, .slice A (ndg a) c), (1, .slice B (ndg b) d), (5, .int .i64 (((m - 1 : Nat) : Int) - 1))]) (by kernel_rfl) ?_
        refine GL.eq (M' := [(0, .slice A (ndg a) c), (1, .slice B (ndg b) d), (5, .int .i64 ((((m - 1) : Nat) : Int) - 1))]) (by rfl) ?_
        exact GL.again (m - 1) [0, 1, 5] rfl (by kernel_rfl) (by show (m - 1) < m; omega) ⟨⟨by omega, by rw [high_step a (m - 1), high_step b (m - 1), show m - 1 + 1 = m from by omega, hv]; omega⟩, H27⟩
      · skip
        have hb36f := of_decide_eq_true hb36
        refine G.yes rfl ?_
        refine G.seqK fun K38 hK39 => ?_
        refine G.region ?_
        refine GL.run (j := 1) 1 [4] [(4, .int .i64 1)] (by kernel_rfl) rfl ?_
        refine GL.k rfl hK39 (fun _ _ h => h) ?_
        refine G.ret ?_
        intro F_ hF_ hM_
        refine hRet _ _ (bodyPost_1 rfl (RV.tmp rfl) ?_ F_ hF_ hM_)
        rw [← cmp_gt (cmp_high (p := 65536 ^ (m - 1)) (by rw [high_step a (m - 1), high_step b (m - 1), show m - 1 + 1 = m from by omega, hv]; omega))]
        exact ⟨rfl, H27.sub (List.nil_sublist _)⟩
    · skip
      have hb33f := of_decide_eq_true hb33
      refine G.yes rfl ?_
      refine G.seqK fun K40 hK41 => ?_
      refine G.region ?_
      refine GL.run (j := 1) 1 [4] [(4, .int .i64 (-1))] (by kernel_rfl) rfl ?_
      refine GL.k rfl hK41 (fun _ _ h => h) ?_
      refine G.ret ?_
      intro F_ hF_ hM_
      refine hRet _ _ (bodyPost_1 rfl (RV.tmp rfl) ?_ F_ hF_ hM_)
      rw [← cmp_lt (cmp_high (p := 65536 ^ (m - 1)) (by rw [high_step a (m - 1), high_step b (m - 1), show m - 1 + 1 = m from by omega, hv]; omega))]
      exact ⟨rfl, H27.sub (List.nil_sublist _)⟩
end Go.Proofs.Ytljfofnpjmlobaa
