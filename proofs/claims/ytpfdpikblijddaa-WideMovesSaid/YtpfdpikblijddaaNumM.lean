/- The document's numbers: products, halves, words. -/
import Derived.Test.YtpfdpikblijddaaNum
namespace Go.Proofs.Ytpfdpikblijddaa
open Go.RowKit
theorem HalfN_calls (a : Nat) (A : Option Addr) (c : Nat) (w : World) (hr : RdS w A (dg (digs a))) (hna : ndg a ≤ 100000) : Calls Try.prog 33 #[.slice A (ndg a) c] w fun e w' => ∃ A c, e = .returned (.tuple #[(.slice A (ndg (a / 2)) c), .int .u64 ((a % 2 : Nat) : Int)]) ∧ Hp w [] [.row A (ndg (a / 2)) c 22 1 (dg (digs (a / 2)))] w' := by
  have hMX : MX = 4611686018427387904 := rfl
  have hK0 : K = 18446744073709551616 := rfl
  have hK40 : K4 = 115792089237316195423570985008687907853269984665640564039457584007913129639936 := rfl
  refine calls_G (args := [.slice A (ndg a) c]) Try.func33 rfl Try.ntmps33 rfl ?_
  intro Q0 hRet hNor hPan
  have H := Hp.start w
  have H : Hp w [] [] w := H
  refine G.seqK fun K1 hK2 => ?_
  refine G.region ?_
  refine GL.run (j := 2) 2 [0] [(0, .slice A (ndg a) c)] (by kernel_rfl) rfl ?_
  refine GL.k rfl hK2 (fun _ _ h => h) ?_
  refine G.seqK fun K3 hK4 => ?_
  refine G.region ?_
  refine GL.run (j := 2) 2 [0, 9] [(0, .slice A (ndg a) c), (9, .int .i64 (((ndg a) : Nat) : Int))] (by kernel_rfl) rfl ?_
  obtain ⟨p5, w6, r7, H8⟩ := H.makeD (P := Try.prog) (t := 30) (e := 22) (n := (ndg a)) (kl := .i64) (kc := .i64) (by kernel_rfl) (by omega)
  have H8 : Hp w [] [.row (some ⟨p5, 0, none⟩) (ndg a) (ndg a) 22 1 (dg (List.replicate (ndg a) 0))] w6 := H8
  refine GL.sem (j := 3) (r7) [0, 10] [(0, .slice A (ndg a) c), (10, .slice (some ⟨p5, 0, none⟩) (ndg a) (ndg a))] (by kernel_rfl) (by kernel_rfl) rfl ?_
  refine GL.run (j := 4) 1 [0, 4] [(0, .slice A (ndg a) c), (4, .slice (some ⟨p5, 0, none⟩) (ndg a) (ndg a))] (by kernel_rfl) rfl ?_
  refine GL.k rfl hK4 (fun _ _ h => h) ?_
  refine G.seqK fun K9 hK10 => ?_
  refine G.region ?_
  refine GL.run (j := 1) 1 [0, 4, 5] [(0, .slice A (ndg a) c), (4, .slice (some ⟨p5, 0, none⟩) (ndg a) (ndg a)), (5, .int .u64 0)] (by kernel_rfl) rfl ?_
  refine GL.k rfl hK10 (fun _ _ h => h) ?_
  refine G.seqK fun K11 hK12 => ?_
  refine G.seqK fun K13 hK14 => ?_
  refine G.region ?_
  refine GL.run (j := 4) 4 [0, 4, 5, 6] [(0, .slice A (ndg a) c), (4, .slice (some ⟨p5, 0, none⟩) (ndg a) (ndg a)), (5, .int .u64 0), (6, .int .i64 (IntKind.i64.wrap ((((ndg a) : Nat) : Int) - 1)))] (by kernel_rfl) rfl ?_
  have e15 : (IntKind.i64.wrap ((((ndg a) : Nat) : Int) - 1)) = ((((ndg a) : Nat) : Int) - 1) := in_i64 (by omega)
  refine GL.eq (M' := [(0, .slice A (ndg a) c), (4, .slice (some ⟨p5, 0, none⟩) (ndg a) (ndg a)), (5, .int .u64 0), (6, .int .i64 ((((ndg a) : Nat) : Int) - 1))]) (by rw [e15]) ?_
  clear e15
  refine GL.k rfl hK14 (fun _ _ h => h) ?_
  refine G.block ?_
  refine G.fit [0, 4, 5, 6] (M' := [(0, .slice A (ndg a) c), (4, .slice (some ⟨p5, 0, none⟩) (ndg a) (ndg a)), (5, .int .u64 0), (6, .int .i64 ((((ndg a) : Nat) : Int) - 1))]) (by kernel_rfl) ?_
  refine G.loop (X := Nat × Nat × List Nat) (fun ⟨m, r, xs⟩ => [(0, .slice A (ndg a) c), (4, .slice (some ⟨p5, 0, none⟩) (ndg a) (ndg a)), (5, .int .u64 (r : Int)), (6, .int .i64 (((m : Nat) : Int) - 1))]) (fun ⟨m, r, xs⟩ w_ => (xs.length = ndg a ∧ ok16 xs ∧ m ≤ ndg a ∧ r < 2 ∧ (∀ k, k < m → xs[k]? = some 0) ∧ 2 * val xs + r * 65536 ^ m = a / 65536 ^ m * 65536 ^ m) ∧ Hp w [] [.row (some ⟨p5, 0, none⟩) (ndg a) (ndg a) 22 1 (dg xs)] w_) (fun ⟨m, r, xs⟩ => m) ⟨(ndg a), 0, (List.replicate (ndg a) 0)⟩ [0, 4, 5, 6] (by kernel_rfl) ⟨⟨by simp, ok_zeros _, Nat.le_refl _, by decide, zeros_get _, by rw [val_zeros, Nat.div_eq_of_lt (ndg_pow a)]; simp⟩, H8⟩ ?_
  rintro ⟨m, r, xs⟩ w16 ⟨hi17, H18⟩
  refine G.eq (M' := [(0, .slice A (ndg a) c), (4, .slice (some ⟨p5, 0, none⟩) (ndg a) (ndg a)), (5, .int .u64 (r : Int)), (6, .int .i64 (((m : Nat) : Int) - 1))]) rfl ?_
  have H18 : Hp w [] [.row (some ⟨p5, 0, none⟩) (ndg a) (ndg a) 22 1 (dg xs)] w16 := H18
  obtain ⟨hxl, hxok, hib, hr2, hz, hv⟩ := hi17
  have hdl := dgt_lt a (m - 1)
  refine G.seqK fun K19 hK20 => ?_
  refine G.seqK fun K21 hK22 => ?_
  refine G.region ?_
  refine GL.run (j := 2) 2 [0, 4, 5, 6, 15] [(0, .slice A (ndg a) c), (4, .slice (some ⟨p5, 0, none⟩) (ndg a) (ndg a)), (5, .int .u64 (r : Int)), (6, .int .i64 (((m : Nat) : Int) - 1)), (15, .bool (decide (0 ≤ (((m : Nat) : Int) - 1))))] (by kernel_rfl) rfl ?_
  refine GL.k rfl hK22 (fun _ _ h => h) ?_
  cases hb23 : (decide (0 ≤ (((m : Nat) : Int) - 1)))
  · skip
    have hb23f := of_decide_eq_false hb23
    have hm0 : m = 0 := by omega
    refine G.no rfl ?_
    refine G.exitK hK12 (fun _ _ h => h) ?_
    refine G.seqK fun K24 hK25 => ?_
    refine G.region ?_
    refine GL.run (j := 1) 1 [5, 32] [(5, .int .u64 (r : Int)), (32, .slice (some ⟨p5, 0, none⟩) (ndg a) (ndg a))] (by kernel_rfl) rfl ?_
    obtain ⟨hval, hrest⟩ := half_done hm0 hr2 hv
    refine GL.call (j := 2) (trim_calls xs (ndg a) (hxl.symm) (some ⟨p5, 0, none⟩) (ndg a) w16 (H18.rdRow 0 rfl) (hxok) (H18.rowLe 0 rfl).1 (by omega)) (by kernel_rfl) rfl (fun e_ w26 hR => ?_)
    obtain ⟨rfl, H28⟩ := hR
    have H27 := (H18.callNil H28).shrinkD 0 rfl (hxl.symm) (hxok)
    rw [hval] at H27
    rw [hval]
    have H27 : Hp w [] [.row (some ⟨p5, 0, none⟩) (ndg (a / 2)) (ndg a) 22 1 (dg (digs (a / 2)))] w26 := H27
    refine ⟨_, rfl, [5, 33], [(5, .int .u64 (r : Int)), (33, .slice (some ⟨p5, 0, none⟩) (ndg (a / 2)) (ndg a))], by kernel_rfl, ?_⟩
    refine GL.run (j := 5) 3 [2, 3] [(2, .slice (some ⟨p5, 0, none⟩) (ndg (a / 2)) (ndg a)), (3, .int .u64 (r : Int))] (by kernel_rfl) rfl ?_
    refine GL.k rfl hK25 (fun _ _ h => h) ?_
    refine G.ret ?_
    intro F_ hF_ hM_
    refine hRet _ _ (bodyPost_2 rfl (RV.tmp rfl) (RV.tmp rfl) ?_ F_ hF_ hM_)
    rw [hrest]
    exact ⟨_, _, rfl, H27⟩
  · skip
    have hb23f := of_decide_eq_true hb23
    have hm0 : 0 < m := by omega
    have ei : (((m : Nat) : Int) - 1) = ((m - 1 : Nat) : Int) := by omega
    refine G.eq (M' := [(0, .slice A (ndg a) c), (4, .slice (some ⟨p5, 0, none⟩) (ndg a) (ndg a)), (5, .int .u64 (r : Int)), (6, .int .i64 ((m - 1 : Nat) : Int)), (15, .bool true)]) (by rw [ei]) ?_
    have h0 := hz (m - 1) (by omega)
    refine G.yes rfl ?_
    refine G.skipK hK20 (fun _ _ h => h) ?_
    refine G.seqK fun K29 hK30 => ?_
    refine G.block ?_
    refine G.seqK fun K31 hK32 => ?_
    refine G.region ?_
    refine GL.run (j := 4) 4 [0, 4, 6, 19, 20, 21] [(0, .slice A (ndg a) c), (4, .slice (some ⟨p5, 0, none⟩) (ndg a) (ndg a)), (6, .int .i64 ((m - 1 : Nat) : Int)), (19, .int .u64 (IntKind.u64.wrap ((r : Int) * 65536))), (20, .slice A (ndg a) c), (21, .int .i64 ((m - 1 : Nat) : Int))] (by kernel_rfl) rfl ?_
    have e33 : (IntKind.u64.wrap ((r : Int) * 65536)) = ((r * 65536 : Nat) : Int) := n_mul' (a := r) (b := 65536) (by omega)
    refine GL.eq (M' := [(0, .slice A (ndg a) c), (4, .slice (some ⟨p5, 0, none⟩) (ndg a) (ndg a)), (6, .int .i64 ((m - 1 : Nat) : Int)), (19, .int .u64 ((r * 65536 : Nat) : Int)), (20, .slice A (ndg a) c), (21, .int .i64 ((m - 1 : Nat) : Int))]) (by rw [e33]) ?_
    clear e33
    refine GL.sem (j := 5) (run_idxRd (P := Try.prog) (k := .i64) (t := 30) (A := A) (len := (ndg a)) (cap := c) (j := m - 1) (by kernel_rfl) rfl (hr.hp H18) (dg_digs _) (by omega)) [0, 4, 6, 19, 22] [(0, .slice A (ndg a) c), (4, .slice (some ⟨p5, 0, none⟩) (ndg a) (ndg a)), (6, .int .i64 ((m - 1 : Nat) : Int)), (19, .int .u64 ((r * 65536 : Nat) : Int)), (22, .pointer (Option.map (fun x => Addr.add x (m - 1)) A))] (by kernel_rfl) (by kernel_rfl) rfl ?_
    refine GL.sem (j := 6) (run_ldRd (P := Try.prog) (ty := 22) (A := A) (j := m - 1) (v := .int .u64 ((dgt a (m - 1)) : Int)) (by kernel_rfl) (hr.hp H18) (dg_at (digs_get (by omega)))) [0, 4, 6, 19, 23] [(0, .slice A (ndg a) c), (4, .slice (some ⟨p5, 0, none⟩) (ndg a) (ndg a)), (6, .int .i64 ((m - 1 : Nat) : Int)), (19, .int .u64 ((r * 65536 : Nat) : Int)), (23, .int .u64 ((dgt a (m - 1)) : Int))] (by kernel_rfl) (by kernel_rfl) rfl ?_
    refine GL.run (j := 8) 2 [0, 4, 6, 7] [(0, .slice A (ndg a) c), (4, .slice (some ⟨p5, 0, none⟩) (ndg a) (ndg a)), (6, .int .i64 ((m - 1 : Nat) : Int)), (7, .int .u64 (IntKind.u64.wrap (((r * 65536 : Nat) : Int) + ((dgt a (m - 1)) : Int))))] (by kernel_rfl) rfl ?_
    have e34 : (IntKind.u64.wrap (((r * 65536 : Nat) : Int) + ((dgt a (m - 1)) : Int))) = (((r * 65536) + (dgt a (m - 1)) : Nat) : Int) := n_add' (a := (r * 65536)) (b := (dgt a (m - 1))) (by omega)
    refine GL.eq (M' := [(0, .slice A (ndg a) c), (4, .slice (some ⟨p5, 0, none⟩) (ndg a) (ndg a)), (6, .int .i64 ((m - 1 : Nat) : Int)), (7, .int .u64 (((r * 65536) + (dgt a (m - 1)) : Nat) : Int))]) (by rw [e34]) ?_
    clear e34
    refine GL.k rfl hK32 (fun _ _ h => h) ?_
    refine G.seqK fun K35 hK36 => ?_
    refine G.region ?_
    refine GL.run (j := 4) 4 [0, 4, 6, 7, 25, 26, 28] [(0, .slice A (ndg a) c), (4, .slice (some ⟨p5, 0, none⟩) (ndg a) (ndg a)), (6, .int .i64 ((m - 1 : Nat) : Int)), (7, .int .u64 (((r * 65536) + (dgt a (m - 1)) : Nat) : Int)), (25, .slice (some ⟨p5, 0, none⟩) (ndg a) (ndg a)), (26, .int .i64 ((m - 1 : Nat) : Int)), (28, .int .u64 (IntKind.u64.wrap (Int.tdiv (((r * 65536) + (dgt a (m - 1)) : Nat) : Int) 2)))] (by kernel_rfl) rfl ?_
    have e37 : (IntKind.u64.wrap (Int.tdiv (((r * 65536) + (dgt a (m - 1)) : Nat) : Int) 2)) = ((((r * 65536) + (dgt a (m - 1))) / 2 : Nat) : Int) := n_quo 2 (by omega)
    refine GL.eq (M' := [(0, .slice A (ndg a) c), (4, .slice (some ⟨p5, 0, none⟩) (ndg a) (ndg a)), (6, .int .i64 ((m - 1 : Nat) : Int)), (7, .int .u64 (((r * 65536) + (dgt a (m - 1)) : Nat) : Int)), (25, .slice (some ⟨p5, 0, none⟩) (ndg a) (ndg a)), (26, .int .i64 ((m - 1 : Nat) : Int)), (28, .int .u64 ((((r * 65536) + (dgt a (m - 1))) / 2 : Nat) : Int))]) (by rw [e37]) ?_
    clear e37
    refine GL.sem (j := 5) (run_idxRd (P := Try.prog) (k := .i64) (t := 30) (A := (some ⟨p5, 0, none⟩)) (len := (ndg a)) (cap := (ndg a)) (j := m - 1) (by kernel_rfl) rfl (H18.rdRow 0 rfl) (by first | exact dg_length _ | rw [dg_length]; first | rfl | assumption | (symm; assumption) | (simp; done) | (rw [List.length_take]; omega) | omega) (by omega)) [0, 4, 6, 7, 28, 29] [(0, .slice A (ndg a) c), (4, .slice (some ⟨p5, 0, none⟩) (ndg a) (ndg a)), (6, .int .i64 ((m - 1 : Nat) : Int)), (7, .int .u64 (((r * 65536) + (dgt a (m - 1)) : Nat) : Int)), (28, .int .u64 ((((r * 65536) + (dgt a (m - 1))) / 2 : Nat) : Int)), (29, .pointer (Option.map (fun x => Addr.add x (m - 1)) (some ⟨p5, 0, none⟩)))] (by kernel_rfl) (by kernel_rfl) rfl ?_
    obtain ⟨w38, r39, H40⟩ := H18.stRow (P := Try.prog) (q := m - 1) (ty := 22) (v := .int .u64 ((((r * 65536) + (dgt a (m - 1))) / 2 : Nat) : Int)) 0 rfl (by kernel_rfl) (by rw [dg_length]; omega) rfl
    rw [dg_set] at H40
    have H40 : Hp w [] [.row (some ⟨p5, 0, none⟩) (ndg a) (ndg a) 22 1 (dg (List.set xs (m - 1) (((r * 65536) + (dgt a (m - 1))) / 2)))] w38 := H40
    refine GL.semU (j := 6) r39 [0, 4, 6, 7] [(0, .slice A (ndg a) c), (4, .slice (some ⟨p5, 0, none⟩) (ndg a) (ndg a)), (6, .int .i64 ((m - 1 : Nat) : Int)), (7, .int .u64 (((r * 65536) + (dgt a (m - 1)) : Nat) : Int))] (by kernel_rfl) rfl rfl rfl ?_
    refine GL.k rfl hK36 (fun _ _ h => h) ?_
    refine G.region ?_
    refine GL.run (j := 3) 3 [0, 4, 5, 6] [(0, .slice A (ndg a) c), (4, .slice (some ⟨p5, 0, none⟩) (ndg a) (ndg a)), (5, .int .u64 (Int.tmod (((r * 65536) + (dgt a (m - 1)) : Nat) : Int) 2)), (6, .int .i64 ((m - 1 : Nat) : Int))] (by kernel_rfl) rfl ?_
    have e41 : (Int.tmod (((r * 65536) + (dgt a (m - 1)) : Nat) : Int) 2) = ((((r * 65536) + (dgt a (m - 1))) % 2 : Nat) : Int) := n_rem _ 2
    refine GL.eq (M' := [(0, .slice A (ndg a) c), (4, .slice (some ⟨p5, 0, none⟩) (ndg a) (ndg a)), (5, .int .u64 ((((r * 65536) + (dgt a (m - 1))) % 2 : Nat) : Int)), (6, .int .i64 ((m - 1 : Nat) : Int))]) (by rw [e41]) ?_
    clear e41
    refine GL.k rfl hK30 (fun _ _ h => h) ?_
    refine G.region ?_
    refine GL.run (j := 3) 3 [0, 4, 5, 6] [(0, .slice A (ndg a) c), (4, .slice (some ⟨p5, 0, none⟩) (ndg a) (ndg a)), (5, .int .u64 ((((r * 65536) + (dgt a (m - 1))) % 2 : Nat) : Int)), (6, .int .i64 (IntKind.i64.wrap (((m - 1 : Nat) : Int) - 1)))] (by kernel_rfl) rfl ?_
    have e42 : (IntKind.i64.wrap (((m - 1 : Nat) : Int) - 1)) = (((m - 1 : Nat) : Int) - 1) := in_i64 (by omega)
    refine GL.eq (M' := [(0, .slice A (ndg a) c), (4, .slice (some ⟨p5, 0, none⟩) (ndg a) (ndg a)), (5, .int .u64 ((((r * 65536) + (dgt a (m - 1))) % 2 : Nat) : Int)), (6, .int .i64 (((m - 1 : Nat) : Int) - 1))]) (by rw [e42]) ?_
    clear e42
    refine GL.fit (ts := [0, 4, 5, 6]) (M' := [(0, .slice A (ndg a) c), (4, .slice (some ⟨p5, 0, none⟩) (ndg a) (ndg a)), (5, .int .u64 ((((r * 65536) + (dgt a (m - 1))) % 2 : Nat) : Int)), (6, .int .i64 (((m - 1 : Nat) : Int) - 1))]) (by kernel_rfl) ?_
    refine GL.eq (M' := [(0, .slice A (ndg a) c), (4, .slice (some ⟨p5, 0, none⟩) (ndg a) (ndg a)), (5, .int .u64 ((((r * 65536) + (dgt a (m - 1))) % 2 : Nat) : Int)), (6, .int .i64 ((((m - 1) : Nat) : Int) - 1))]) (by rfl) ?_
    exact GL.again ⟨(m - 1), ((r * 65536) + (dgt a (m - 1))) % 2, (List.set xs (m - 1) (((r * 65536) + (dgt a (m - 1))) / 2))⟩ [0, 4, 5, 6] rfl (by kernel_rfl) (by show (m - 1) < m; omega) ⟨⟨by simp [hxl], ok_set hxok (by omega), by omega, by omega, zero_set hz (by omega), half_round hm0 h0 rfl hv⟩, H40⟩
theorem WordsN_calls (n : Nat) (A : Option Addr) (c : Nat) (w : World) (hr : RdS w A (dg (digs n))) (hn : ndg n ≤ 1000000) : Calls Try.prog 32 #[.slice A (ndg n) c] w fun e w' => e = .returned (.tuple #[wv (n % K4), .bool (decide (K4 ≤ n))]) ∧ Hp w [] [] w' := by
  have hMX : MX = 4611686018427387904 := rfl
  have hK0 : K = 18446744073709551616 := rfl
  have hK40 : K4 = 115792089237316195423570985008687907853269984665640564039457584007913129639936 := rfl
  refine calls_G (args := [.slice A (ndg n) c]) Try.func32 rfl Try.ntmps32 rfl ?_
  intro Q0 hRet hNor hPan
  have H := Hp.start w
  have H : Hp w [] [] w := H
  refine G.seqK fun K1 hK2 => ?_
  refine G.region ?_
  obtain ⟨p3, w4, r5, H6⟩ := H.alloc (P := Try.prog) 23 [.int .u64 0, .int .u64 0, .int .u64 0, .int .u64 0] (by kernel_rfl)
  have H6 : Hp w [] [.blk p3 [.int .u64 0, .int .u64 0, .int .u64 0, .int .u64 0] 23] w4 := H6
  refine GL.sem (j := 1) (r5) [0, 2] [(0, .slice A (ndg n) c), (2, pt p3 0)] (by kernel_rfl) (by kernel_rfl) rfl ?_
  refine GL.run (j := 2) 1 [0, 2] [(0, .slice A (ndg n) c), (2, pt p3 0)] (by kernel_rfl) rfl ?_
  refine GL.k rfl hK2 (fun _ _ h => h) ?_
  refine G.seqK fun K7 hK8 => ?_
  refine G.region ?_
  refine GL.run (j := 1) 1 [0, 2, 6] [(0, .slice A (ndg n) c), (2, pt p3 0), (6, .agg #[.int .u64 0, .int .u64 0, .int .u64 0, .int .u64 0])] (by kernel_rfl) rfl ?_
  obtain ⟨p9, w10, r11, H12⟩ := H6.alloc (P := Try.prog) 23 [.int .u64 0, .int .u64 0, .int .u64 0, .int .u64 0] (by kernel_rfl)
  have H12 : Hp w [] [.blk p3 [.int .u64 0, .int .u64 0, .int .u64 0, .int .u64 0] 23, .blk p9 [.int .u64 0, .int .u64 0, .int .u64 0, .int .u64 0] 23] w10 := H12
  refine GL.sem (j := 2) (r11) [0, 2, 4, 6] [(0, .slice A (ndg n) c), (2, pt p3 0), (4, pt p9 0), (6, .agg #[.int .u64 0, .int .u64 0, .int .u64 0, .int .u64 0])] (by kernel_rfl) (by kernel_rfl) rfl ?_
  obtain ⟨w13, r14, H15⟩ := H12.stA (P := Try.prog) (o := 0) (vs := [.int .u64 0, .int .u64 0, .int .u64 0, .int .u64 0]) (ty := 23) (m := 4) 1 rfl (by kernel_rfl) rfl (by simp) (by simp [Value.oneCell'])
  have H15 : Hp w [] [.blk p3 [.int .u64 0, .int .u64 0, .int .u64 0, .int .u64 0] 23, .blk p9 [.int .u64 0, .int .u64 0, .int .u64 0, .int .u64 0] 23] w13 := H15
  refine GL.semU (j := 3) r14 [0, 2, 4] [(0, .slice A (ndg n) c), (2, pt p3 0), (4, pt p9 0)] (by kernel_rfl) rfl rfl rfl ?_
  refine GL.k rfl hK8 (fun _ _ h => h) ?_
  refine G.seqK fun K16 hK17 => ?_
  refine G.seqK fun K18 hK19 => ?_
  refine G.region ?_
  refine GL.run (j := 1) 1 [0, 2, 4, 5] [(0, .slice A (ndg n) c), (2, pt p3 0), (4, pt p9 0), (5, .int .i64 0)] (by kernel_rfl) rfl ?_
  refine GL.k rfl hK19 (fun _ _ h => h) ?_
  refine G.block ?_
  have H20 : Hp w [] [.blk p3 [.int .u64 0, .int .u64 0, .int .u64 0, .int .u64 0] 23, .blk p9 [.int .u64 (wd 0 0 : Int), .int .u64 (wd 0 1 : Int), .int .u64 (wd 0 2 : Int), .int .u64 (wd 0 3 : Int)] 23] w13 := H15
  refine G.fit [0, 2, 4, 5] (M' := [(0, .slice A (ndg n) c), (2, pt p3 0), (4, pt p9 0), (5, .int .i64 0)]) (by kernel_rfl) ?_
  refine G.loop (X := Nat × Nat) (fun ⟨i, V⟩ => [(0, .slice A (ndg n) c), (2, pt p3 0), (4, pt p9 0), (5, .int .i64 (i : Int))]) (fun ⟨i, V⟩ w_ => (i ≤ 16 ∧ i ≤ ndg n ∧ V = n % 65536 ^ i) ∧ Hp w [] [.blk p3 [.int .u64 0, .int .u64 0, .int .u64 0, .int .u64 0] 23, .blk p9 [.int .u64 (wd V 0 : Int), .int .u64 (wd V 1 : Int), .int .u64 (wd V 2 : Int), .int .u64 (wd V 3 : Int)] 23] w_) (fun ⟨i, V⟩ => 16 - i) ⟨0, 0⟩ [0, 2, 4, 5] (by kernel_rfl) ⟨⟨by decide, Nat.zero_le _, by simp [Nat.mod_one]⟩, H20⟩ ?_
  rintro ⟨i, V⟩ w21 ⟨hi22, H23⟩
  refine G.eq (M' := [(0, .slice A (ndg n) c), (2, pt p3 0), (4, pt p9 0), (5, .int .i64 (i : Int))]) rfl ?_
  have H23 : Hp w [] [.blk p3 [.int .u64 0, .int .u64 0, .int .u64 0, .int .u64 0] 23, .blk p9 [.int .u64 (wd V 0 : Int), .int .u64 (wd V 1 : Int), .int .u64 (wd V 2 : Int), .int .u64 (wd V 3 : Int)] 23] w21 := H23
  obtain ⟨hi16, hin, hV⟩ := hi22
  have hVp : V < 65536 ^ i := by rw [hV]; exact Nat.mod_lt _ (pow_pos16 i)
  have hdl := dgt_lt n i
  refine G.seqK fun K24 hK25 => ?_
  refine G.seqK fun K26 hK27 => ?_
  refine G.region ?_
  refine GL.run (j := 3) 3 [0, 2, 4, 5, 9] [(0, .slice A (ndg n) c), (2, pt p3 0), (4, pt p9 0), (5, .int .i64 (i : Int)), (9, .bool (decide ((i : Int) < 16)))] (by kernel_rfl) rfl ?_
  cases hb28 : (decide ((i : Int) < 16))
  · skip
    have hb28f := of_decide_eq_false hb28
    refine GL.run (j := 8) 5 [0, 2, 4, 5, 14] [(0, .slice A (ndg n) c), (2, pt p3 0), (4, pt p9 0), (5, .int .i64 (i : Int)), (14, .bool false)] (by kernel_rfl) rfl ?_
    refine GL.k rfl hK27 (fun _ _ h => h) ?_
    refine G.no rfl ?_
    refine G.exitK hK17 (fun _ _ h => h) ?_
    refine G.seqK fun K29 hK30 => ?_
    refine G.region ?_
    refine GL.sem (j := 1) (H23.ldA (o := 0) (ty := 23) (m := 4) (sub := [.int .u64 (wd V 0 : Int), .int .u64 (wd V 1 : Int), .int .u64 (wd V 2 : Int), .int .u64 (wd V 3 : Int)]) 1 rfl (by kernel_rfl) rfl rfl) [0, 2, 33] [(0, .slice A (ndg n) c), (2, pt p3 0), (33, wv V)] (by kernel_rfl) (by kernel_rfl) rfl ?_
    refine GL.run (j := 4) 3 [2, 33, 36] [(2, pt p3 0), (33, wv V), (36, .bool (decide (16 < (((ndg n) : Nat) : Int))))] (by kernel_rfl) rfl ?_
    obtain ⟨w31, r32, H33⟩ := H23.stA (P := Try.prog) (o := 0) (vs := [.int .u64 (wd V 0 : Int), .int .u64 (wd V 1 : Int), .int .u64 (wd V 2 : Int), .int .u64 (wd V 3 : Int)]) (ty := 23) (m := 4) 0 rfl (by kernel_rfl) rfl (by simp) (by simp [Value.oneCell'])
    have H33 : Hp w [] [.blk p3 [.int .u64 (wd V 0 : Int), .int .u64 (wd V 1 : Int), .int .u64 (wd V 2 : Int), .int .u64 (wd V 3 : Int)] 23, .blk p9 [.int .u64 (wd V 0 : Int), .int .u64 (wd V 1 : Int), .int .u64 (wd V 2 : Int), .int .u64 (wd V 3 : Int)] 23] w31 := H33
    refine GL.semU (j := 5) r32 [2, 36] [(2, pt p3 0), (36, .bool (decide (16 < (((ndg n) : Nat) : Int))))] (by kernel_rfl) rfl rfl rfl ?_
    refine GL.run (j := 6) 1 [2, 3] [(2, pt p3 0), (3, .bool (decide (16 < (((ndg n) : Nat) : Int))))] (by kernel_rfl) rfl ?_
    refine GL.k rfl hK30 (fun _ _ h => h) ?_
    refine G.ret ?_
    intro F_ hF_ hM_
    refine hRet _ _ (bodyPost_2 rfl (RV.cell rfl (H33.ldA (o := 0) (ty := 23) (m := 4) (sub := [.int .u64 (wd V 0 : Int), .int .u64 (wd V 1 : Int), .int .u64 (wd V 2 : Int), .int .u64 (wd V 3 : Int)]) 0 rfl (by kernel_rfl) rfl rfl)) (RV.tmp rfl) ?_ F_ hF_ hM_)
    have hEnd := words_end hV (by omega)
    rw [hEnd, words_over]
    exact ⟨rfl, H33.sub (List.nil_sublist _)⟩
  · skip
    have hb28f := of_decide_eq_true hb28
    refine GL.run (j := 8) 5 [0, 2, 4, 5, 14] [(0, .slice A (ndg n) c), (2, pt p3 0), (4, pt p9 0), (5, .int .i64 (i : Int)), (14, .bool (decide ((i : Int) < (((ndg n) : Nat) : Int))))] (by kernel_rfl) rfl ?_
    refine GL.k rfl hK27 (fun _ _ h => h) ?_
    cases hb34 : (decide ((i : Int) < (((ndg n) : Nat) : Int)))
    · skip
      have hb34f := of_decide_eq_false hb34
      refine G.no rfl ?_
      refine G.exitK hK17 (fun _ _ h => h) ?_
      refine G.seqK fun K35 hK36 => ?_
      refine G.region ?_
      refine GL.sem (j := 1) (H23.ldA (o := 0) (ty := 23) (m := 4) (sub := [.int .u64 (wd V 0 : Int), .int .u64 (wd V 1 : Int), .int .u64 (wd V 2 : Int), .int .u64 (wd V 3 : Int)]) 1 rfl (by kernel_rfl) rfl rfl) [0, 2, 33] [(0, .slice A (ndg n) c), (2, pt p3 0), (33, wv V)] (by kernel_rfl) (by kernel_rfl) rfl ?_
      refine GL.run (j := 4) 3 [2, 33, 36] [(2, pt p3 0), (33, wv V), (36, .bool (decide (16 < (((ndg n) : Nat) : Int))))] (by kernel_rfl) rfl ?_
      obtain ⟨w37, r38, H39⟩ := H23.stA (P := Try.prog) (o := 0) (vs := [.int .u64 (wd V 0 : Int), .int .u64 (wd V 1 : Int), .int .u64 (wd V 2 : Int), .int .u64 (wd V 3 : Int)]) (ty := 23) (m := 4) 0 rfl (by kernel_rfl) rfl (by simp) (by simp [Value.oneCell'])
      have H39 : Hp w [] [.blk p3 [.int .u64 (wd V 0 : Int), .int .u64 (wd V 1 : Int), .int .u64 (wd V 2 : Int), .int .u64 (wd V 3 : Int)] 23, .blk p9 [.int .u64 (wd V 0 : Int), .int .u64 (wd V 1 : Int), .int .u64 (wd V 2 : Int), .int .u64 (wd V 3 : Int)] 23] w37 := H39
      refine GL.semU (j := 5) r38 [2, 36] [(2, pt p3 0), (36, .bool (decide (16 < (((ndg n) : Nat) : Int))))] (by kernel_rfl) rfl rfl rfl ?_
      refine GL.run (j := 6) 1 [2, 3] [(2, pt p3 0), (3, .bool (decide (16 < (((ndg n) : Nat) : Int))))] (by kernel_rfl) rfl ?_
      refine GL.k rfl hK36 (fun _ _ h => h) ?_
      refine G.ret ?_
      intro F_ hF_ hM_
      refine hRet _ _ (bodyPost_2 rfl (RV.cell rfl (H39.ldA (o := 0) (ty := 23) (m := 4) (sub := [.int .u64 (wd V 0 : Int), .int .u64 (wd V 1 : Int), .int .u64 (wd V 2 : Int), .int .u64 (wd V 3 : Int)]) 0 rfl (by kernel_rfl) rfl rfl)) (RV.tmp rfl) ?_ F_ hF_ hM_)
      have hEnd := words_end hV (by omega)
      rw [hEnd, words_over]
      exact ⟨rfl, H39.sub (List.nil_sublist _)⟩
    · skip
      have hb34f := of_decide_eq_true hb34
      refine G.yes rfl ?_
      refine G.skipK hK25 (fun _ _ h => h) ?_
      refine G.seqK fun K40 hK41 => ?_
      refine G.block ?_
      refine G.tail 16 (by kernel_rfl) (by kernel_rfl) ?_
      have H42 := H23.drew
      generalize ({ w21 with drawn := w21.drawn + 1 } : World) = w43 at H42 ⊢
      refine GS.run (j := 4) 4 [0, 2, 4, 5, 18, 20] [(0, .slice A (ndg n) c), (2, pt p3 0), (4, pt p9 0), (5, .int .i64 (i : Int)), (18, .int .i64 (IntKind.i64.wrap (Int.tdiv (i : Int) 4))), (20, .int .i64 (IntKind.i64.wrap (Int.tdiv (i : Int) 4)))] (by kernel_rfl) rfl rfl ?_
      have e44 : (IntKind.i64.wrap (Int.tdiv (i : Int) 4)) = ((i / 4 : Nat) : Int) := i_quo 4 (by omega)
      refine GS.eq (M' := [(0, .slice A (ndg n) c), (2, pt p3 0), (4, pt p9 0), (5, .int .i64 (i : Int)), (18, .int .i64 ((i / 4 : Nat) : Int)), (20, .int .i64 ((i / 4 : Nat) : Int))]) (by rw [e44]) ?_
      clear e44
      refine GS.sem (j := 5) (run_idxArr (P := Try.prog) (k := .i64) (t := 23) (len := 4) (sz := 1) (b := p9) (o := 0) (j := i / 4) (by kernel_rfl) rfl (by omega)) [0, 2, 4, 5, 18, 21] [(0, .slice A (ndg n) c), (2, pt p3 0), (4, pt p9 0), (5, .int .i64 (i : Int)), (18, .int .i64 ((i / 4 : Nat) : Int)), (21, pt p9 (0 + (i / 4) * 1))] (by kernel_rfl) (by kernel_rfl) rfl rfl ?_
      refine GS.sem (j := 6) (H42.ld (o := (0 + (i / 4) * 1)) (ty := 22) (v := .int .u64 (wd V (i / 4) : Int)) 1 rfl (by kernel_rfl) (wd_cell V (by omega))) [0, 2, 4, 5, 18, 22] [(0, .slice A (ndg n) c), (2, pt p3 0), (4, pt p9 0), (5, .int .i64 (i : Int)), (18, .int .i64 ((i / 4 : Nat) : Int)), (22, .int .u64 (wd V (i / 4) : Int))] (by kernel_rfl) (by kernel_rfl) rfl rfl ?_
      refine GS.run (j := 8) 2 [0, 2, 4, 5, 18, 22, 23, 24] [(0, .slice A (ndg n) c), (2, pt p3 0), (4, pt p9 0), (5, .int .i64 (i : Int)), (18, .int .i64 ((i / 4 : Nat) : Int)), (22, .int .u64 (wd V (i / 4) : Int)), (23, .slice A (ndg n) c), (24, .int .i64 (i : Int))] (by kernel_rfl) rfl rfl ?_
      refine GS.sem (j := 9) (run_idxRd (P := Try.prog) (k := .i64) (t := 30) (A := A) (len := (ndg n)) (cap := c) (j := i) (by kernel_rfl) rfl (hr.hp H42) (dg_digs _) (by omega)) [0, 2, 4, 5, 18, 22, 25] [(0, .slice A (ndg n) c), (2, pt p3 0), (4, pt p9 0), (5, .int .i64 (i : Int)), (18, .int .i64 ((i / 4 : Nat) : Int)), (22, .int .u64 (wd V (i / 4) : Int)), (25, .pointer (Option.map (fun x => Addr.add x i) A))] (by kernel_rfl) (by kernel_rfl) rfl rfl ?_
      refine GS.sem (j := 10) (run_ldRd (P := Try.prog) (ty := 22) (A := A) (j := i) (v := .int .u64 ((dgt n i) : Int)) (by kernel_rfl) (hr.hp H42) (dg_at (digs_get (by omega)))) [0, 2, 4, 5, 18, 22, 26] [(0, .slice A (ndg n) c), (2, pt p3 0), (4, pt p9 0), (5, .int .i64 (i : Int)), (18, .int .i64 ((i / 4 : Nat) : Int)), (22, .int .u64 (wd V (i / 4) : Int)), (26, .int .u64 ((dgt n i) : Int))] (by kernel_rfl) (by kernel_rfl) rfl rfl ?_
      refine GS.run (j := 13) 3 [0, 2, 4, 5, 18, 22, 26, 29] [(0, .slice A (ndg n) c), (2, pt p3 0), (4, pt p9 0), (5, .int .i64 (i : Int)), (18, .int .i64 ((i / 4 : Nat) : Int)), (22, .int .u64 (wd V (i / 4) : Int)), (26, .int .u64 ((dgt n i) : Int)), (29, .int .i64 (IntKind.i64.wrap (16 * (Int.tmod (i : Int) 4))))] (by kernel_rfl) rfl rfl ?_
      have e45 : (Int.tmod (i : Int) 4) = ((i % 4 : Nat) : Int) := n_rem _ 4
      have e46 : (IntKind.i64.wrap (16 * ((i % 4 : Nat) : Int))) = ((16 * (i % 4) : Nat) : Int) := by rw [in_i64 (by omega)]; omega
      refine GS.eq (M' := [(0, .slice A (ndg n) c), (2, pt p3 0), (4, pt p9 0), (5, .int .i64 (i : Int)), (18, .int .i64 ((i / 4 : Nat) : Int)), (22, .int .u64 (wd V (i / 4) : Int)), (26, .int .u64 ((dgt n i) : Int)), (29, .int .i64 ((16 * (i % 4) : Nat) : Int))]) (by rw [e45, e46]) ?_
      clear e45 e46
      have hroom := dig_room hVp (by omega) hdl
      refine GS.sem (j := 14) (run_shlN (P := Try.prog) (k' := .i64) (t := 22) (a := (dgt n i)) (r := (16 * (i % 4))) (by omega) _) [0, 2, 4, 5, 18, 22, 30] [(0, .slice A (ndg n) c), (2, pt p3 0), (4, pt p9 0), (5, .int .i64 (i : Int)), (18, .int .i64 ((i / 4 : Nat) : Int)), (22, .int .u64 (wd V (i / 4) : Int)), (30, .int .u64 (((dgt n i) * 2 ^ (16 * (i % 4)) % K : Nat) : Int))] (by kernel_rfl) (by kernel_rfl) rfl rfl ?_
      have e47 : ((dgt n i) * 2 ^ (16 * (i % 4)) % K : Nat) = (dgt n i) * 2 ^ (16 * (i % 4)) := Nat.mod_eq_of_lt hroom.2.1
      refine GS.eq (M' := [(0, .slice A (ndg n) c), (2, pt p3 0), (4, pt p9 0), (5, .int .i64 (i : Int)), (18, .int .i64 ((i / 4 : Nat) : Int)), (22, .int .u64 (wd V (i / 4) : Int)), (30, .int .u64 (((dgt n i) * 2 ^ (16 * (i % 4)) : Nat) : Int))]) (by rw [e47]) ?_
      refine GS.run (j := 15) 1 [0, 2, 4, 5, 18, 31] [(0, .slice A (ndg n) c), (2, pt p3 0), (4, pt p9 0), (5, .int .i64 (i : Int)), (18, .int .i64 ((i / 4 : Nat) : Int)), (31, .int .u64 (IntKind.u64.wrap ((wd V (i / 4) : Int) + (((dgt n i) * 2 ^ (16 * (i % 4)) : Nat) : Int))))] (by kernel_rfl) rfl rfl ?_
      have e48 : (IntKind.u64.wrap ((wd V (i / 4) : Int) + (((dgt n i) * 2 ^ (16 * (i % 4)) : Nat) : Int))) = (((wd V (i / 4)) + ((dgt n i) * 2 ^ (16 * (i % 4))) : Nat) : Int) := n_add' (a := (wd V (i / 4))) (b := ((dgt n i) * 2 ^ (16 * (i % 4)))) hroom.2.2
      refine GS.eq (M' := [(0, .slice A (ndg n) c), (2, pt p3 0), (4, pt p9 0), (5, .int .i64 (i : Int)), (18, .int .i64 ((i / 4 : Nat) : Int)), (31, .int .u64 (((wd V (i / 4)) + ((dgt n i) * 2 ^ (16 * (i % 4))) : Nat) : Int))]) (by rw [e48]) ?_
      clear e48
      refine GS.sem (j := 16) (run_idxArr (P := Try.prog) (k := .i64) (t := 23) (len := 4) (sz := 1) (b := p9) (o := 0) (j := i / 4) (by kernel_rfl) rfl (by omega)) [0, 2, 4, 5, 31, 32] [(0, .slice A (ndg n) c), (2, pt p3 0), (4, pt p9 0), (5, .int .i64 (i : Int)), (31, .int .u64 (((wd V (i / 4)) + ((dgt n i) * 2 ^ (16 * (i % 4))) : Nat) : Int)), (32, pt p9 (0 + (i / 4) * 1))] (by kernel_rfl) (by kernel_rfl) rfl rfl ?_
      refine GS.tail rfl ?_
      obtain ⟨w49, r50, H51⟩ := H42.st (P := Try.prog) (o := (0 + (i / 4) * 1)) (ty := 22) (v := .int .u64 (((wd V (i / 4)) + ((dgt n i) * 2 ^ (16 * (i % 4))) : Nat) : Int)) 1 rfl (by kernel_rfl) (by show (0 + (i / 4) * 1) < 4; omega) rfl
      rw [setdig hVp (by omega) hdl] at H51
      have H51 : Hp w [] [.blk p3 [.int .u64 0, .int .u64 0, .int .u64 0, .int .u64 0] 23, .blk p9 [.int .u64 (wd (V + 65536 ^ i * dgt n i) 0 : Int), .int .u64 (wd (V + 65536 ^ i * dgt n i) 1 : Int), .int .u64 (wd (V + 65536 ^ i * dgt n i) 2 : Int), .int .u64 (wd (V + 65536 ^ i * dgt n i) 3 : Int)] 23] w49 := H51
      refine GL.semU (j := 17) r50 [0, 2, 4, 5] [(0, .slice A (ndg n) c), (2, pt p3 0), (4, pt p9 0), (5, .int .i64 (i : Int))] (by kernel_rfl) rfl rfl rfl ?_
      refine GL.k rfl hK41 (fun _ _ h => h) ?_
      refine G.region ?_
      refine GL.run (j := 3) 3 [0, 2, 4, 5] [(0, .slice A (ndg n) c), (2, pt p3 0), (4, pt p9 0), (5, .int .i64 (IntKind.i64.wrap ((i : Int) + 1)))] (by kernel_rfl) rfl ?_
      have e52 : (IntKind.i64.wrap ((i : Int) + 1)) = ((i + 1 : Nat) : Int) := by rw [in_i64 (by omega)]; omega
      refine GL.eq (M' := [(0, .slice A (ndg n) c), (2, pt p3 0), (4, pt p9 0), (5, .int .i64 ((i + 1 : Nat) : Int))]) (by rw [e52]) ?_
      clear e52
      refine GL.fit (ts := [0, 2, 4, 5]) (M' := [(0, .slice A (ndg n) c), (2, pt p3 0), (4, pt p9 0), (5, .int .i64 ((i + 1 : Nat) : Int))]) (by kernel_rfl) ?_
      refine GL.eq (M' := [(0, .slice A (ndg n) c), (2, pt p3 0), (4, pt p9 0), (5, .int .i64 (((i + 1) : Nat) : Int))]) (by rfl) ?_
      exact GL.again ⟨(i + 1), (V + 65536 ^ i * dgt n i)⟩ [0, 2, 4, 5] rfl (by kernel_rfl) (by show 16 - (i + 1) < 16 - i; omega) ⟨⟨by omega, by omega, by rw [hV, low_step]⟩, H51⟩
end Go.Proofs.Ytpfdpikblijddaa
