/- The document's answers of layer 5: what each function answers. -/
import Derived.Test.YtjfmibmmebdliaaNumB
namespace Go.Proofs.Ytjfmibmmebdliaa
open Go.RowKit
theorem N5_calls (x : Nat) (hx : x < K) (w : World) : Calls Try.prog 11 #[.int .u64 (x : Int)] w fun e w' => ∃ A c, e = .returned ((.slice A (ndg x) c)) ∧ Hp w [] [.row A (ndg x) c 22 1 (dg (digs x))] w' := by
  refine calls_G (args := [.int .u64 (x : Int)]) Try.func11 rfl Try.ntmps11 rfl ?_
  intro Q0 hRet hNor hPan
  have H := Hp.start w
  have H : Hp w [] [] w := H
  refine G.seqK fun K1 hK2 => ?_
  refine G.region ?_
  refine GL.run (j := 1) 1 [0] [(0, .int .u64 (x : Int))] (by kernel_rfl) rfl ?_
  refine GL.k rfl hK2 (fun _ _ h => h) ?_
  refine G.seqK fun K3 hK4 => ?_
  refine G.region ?_
  refine GL.run (j := 2) 2 [4] [(4, .agg #[.int .u64 (x : Int), .int .u64 0, .int .u64 0, .int .u64 0])] (by kernel_rfl) rfl ?_
  have hN10 : ndg x ≤ 4 := ndg_K hx
  refine GL.call (j := 3) (Of1_calls_n x hx w) (by kernel_rfl) rfl (fun e_ w9 hR => ?_)
  obtain ⟨A5, c6, rfl, H8⟩ := hR
  have H7 : Hp w [] [.row A5 (ndg x) c6 22 1 (dg (digs x))] w9 := H.callNew H8
  refine ⟨_, rfl, [5], [(5, .slice A5 (ndg x) c6)], by kernel_rfl, ?_⟩
  refine GL.run (j := 4) 1 [2] [(2, .slice A5 (ndg x) c6)] (by kernel_rfl) rfl ?_
  refine GL.k rfl hK4 (fun _ _ h => h) ?_
  refine G.ret ?_
  intro F_ hF_ hM_
  refine hRet _ _ (bodyPost_1 rfl (RV.tmp rfl) ?_ F_ hF_ hM_)
  exact ⟨_, _, rfl, H7⟩
theorem Product5_2 (x y : Nat) (hx : x < K) (hy : y < K) (A : Option Addr) (c : Nat) (w : World) (hr : RdS w A (dg [x, y])) : Calls Try.prog 10 #[.slice A 2 c] w fun e w' => ∃ A c, e = .returned ((.slice A (ndg (x * y)) c)) ∧ Hp w [] [.row A (ndg (x * y)) c 22 1 (dg (digs (x * y)))] w' := by
  refine calls_G (args := [.slice A 2 c]) Try.func10 rfl Try.ntmps10 rfl ?_
  intro Q0 hRet hNor hPan
  have H := Hp.start w
  have H : Hp w [] [] w := H
  refine G.seqK fun K1 hK2 => ?_
  refine G.region ?_
  refine GL.run (j := 1) 1 [0] [(0, .slice A 2 c)] (by kernel_rfl) rfl ?_
  refine GL.k rfl hK2 (fun _ _ h => h) ?_
  refine G.seqK fun K3 hK4 => ?_
  refine G.region ?_
  have hN10 : ndg 1 ≤ 4 := ndg_K (by decide)
  refine GL.call (j := 1) (N5_calls 1 (by decide) w) (by kernel_rfl) rfl (fun e_ w9 hR => ?_)
  obtain ⟨A5, c6, rfl, H8⟩ := hR
  have H7 : Hp w [] [.row A5 (ndg 1) c6 22 1 (dg (digs 1))] w9 := H.callNew H8
  refine ⟨_, rfl, [0, 6], [(0, .slice A 2 c), (6, .slice A5 (ndg 1) c6)], by kernel_rfl, ?_⟩
  refine GL.run (j := 2) 1 [0, 3] [(0, .slice A 2 c), (3, .slice A5 (ndg 1) c6)] (by kernel_rfl) rfl ?_
  refine GL.k rfl hK4 (fun _ _ h => h) ?_
  refine G.seqK fun K11 hK12 => ?_
  refine G.seqK fun K13 hK14 => ?_
  refine G.region ?_
  refine GL.run (j := 3) 3 [3, 7, 8, 9] [(3, .slice A5 (ndg 1) c6), (7, .slice A 2 c), (8, .int .i64 2), (9, .int .i64 0)] (by kernel_rfl) rfl ?_
  refine GL.k rfl hK14 (fun _ _ h => h) ?_
  refine G.block ?_
  refine G.unroll 2 ?_
  refine G.seqK fun K15 hK16 => ?_
  refine G.region ?_
  refine GL.run (j := 1) 1 [3, 7, 8, 9, 10] [(3, .slice A5 (ndg 1) c6), (7, .slice A 2 c), (8, .int .i64 2), (9, .int .i64 0), (10, .bool true)] (by kernel_rfl) rfl ?_
  refine GL.k rfl hK16 (fun _ _ h => h) ?_
  refine G.seqK fun K17 hK18 => ?_
  refine G.yes rfl ?_
  refine G.skipK hK18 (fun _ _ h => h) ?_
  refine G.seqK fun K19 hK20 => ?_
  refine G.block ?_
  refine G.seqK fun K21 hK22 => ?_
  refine G.region ?_
  refine GL.sem (j := 1) (run_idxRd (P := Try.prog) (k := .i64) (t := 38) (A := A) (len := 2) (cap := c) (j := 0) (by kernel_rfl) rfl (hr.hp H7) (by first | exact dg_length _ | rw [dg_length]; first | rfl | assumption | (symm; assumption) | (simp; done) | (rw [List.length_take]; omega) | omega) (by omega)) [3, 7, 8, 9, 11] [(3, .slice A5 (ndg 1) c6), (7, .slice A 2 c), (8, .int .i64 2), (9, .int .i64 0), (11, .pointer (Option.map (fun x => Addr.add x 0) A))] (by kernel_rfl) (by kernel_rfl) rfl ?_
  refine GL.sem (j := 2) (run_ldRd (P := Try.prog) (ty := 22) (A := A) (j := 0) (v := .int .u64 (x : Int)) (by kernel_rfl) (hr.hp H7) (dg_at rfl)) [3, 7, 8, 9, 12] [(3, .slice A5 (ndg 1) c6), (7, .slice A 2 c), (8, .int .i64 2), (9, .int .i64 0), (12, .int .u64 (x : Int))] (by kernel_rfl) (by kernel_rfl) rfl ?_
  refine GL.run (j := 3) 1 [3, 5, 7, 8, 9] [(3, .slice A5 (ndg 1) c6), (5, .int .u64 (x : Int)), (7, .slice A 2 c), (8, .int .i64 2), (9, .int .i64 0)] (by kernel_rfl) rfl ?_
  refine GL.k rfl hK22 (fun _ _ h => h) ?_
  refine G.region ?_
  refine GL.run (j := 2) 2 [7, 8, 9, 13, 14] [(7, .slice A 2 c), (8, .int .i64 2), (9, .int .i64 0), (13, .slice A5 (ndg 1) c6), (14, .int .u64 (x : Int))] (by kernel_rfl) rfl ?_
  have hN28 : ndg x ≤ 4 := ndg_K hx
  refine GL.call (j := 3) (N5_calls x hx w9) (by kernel_rfl) rfl (fun e_ w27 hR => ?_)
  obtain ⟨A23, c24, rfl, H26⟩ := hR
  have H25 : Hp w [] [.row A5 (ndg 1) c6 22 1 (dg (digs 1)), .row A23 (ndg x) c24 22 1 (dg (digs x))] w27 := H7.callNew H26
  refine ⟨_, rfl, [7, 8, 9, 13, 15], [(7, .slice A 2 c), (8, .int .i64 2), (9, .int .i64 0), (13, .slice A5 (ndg 1) c6), (15, .slice A23 (ndg x) c24)], by kernel_rfl, ?_⟩
  have hN34 : ndg (1 * x) ≤ 8 := ndg_mul hN10 hN28
  refine GL.call (j := 4) (MulN_calls 1 x A5 c6 A23 c24 w27 (H25.rdRow 0 rfl) (H25.rdRow 1 rfl) (Nat.le_trans hN10 (by decide)) (Nat.le_trans hN28 (by decide))) (by kernel_rfl) rfl (fun e_ w33 hR => ?_)
  obtain ⟨A29, c30, rfl, H32⟩ := hR
  have H31 : Hp w [] [.row A5 (ndg 1) c6 22 1 (dg (digs 1)), .row A23 (ndg x) c24 22 1 (dg (digs x)), .row A29 (ndg (1 * x)) c30 22 1 (dg (digs (1 * x)))] w33 := H25.callNew H32
  refine ⟨_, rfl, [7, 8, 9, 16], [(7, .slice A 2 c), (8, .int .i64 2), (9, .int .i64 0), (16, .slice A29 (ndg (1 * x)) c30)], by kernel_rfl, ?_⟩
  refine GL.run (j := 5) 1 [3, 7, 8, 9] [(3, .slice A29 (ndg (1 * x)) c30), (7, .slice A 2 c), (8, .int .i64 2), (9, .int .i64 0)] (by kernel_rfl) rfl ?_
  refine GL.k rfl hK20 (fun _ _ h => h) ?_
  refine G.region ?_
  refine GL.run (j := 2) 2 [3, 7, 8, 9] [(3, .slice A29 (ndg (1 * x)) c30), (7, .slice A 2 c), (8, .int .i64 2), (9, .int .i64 1)] (by kernel_rfl) rfl ?_
  refine GL.round rfl ?_
  refine G.seqK fun K35 hK36 => ?_
  refine G.region ?_
  refine GL.run (j := 1) 1 [3, 7, 8, 9, 10] [(3, .slice A29 (ndg (1 * x)) c30), (7, .slice A 2 c), (8, .int .i64 2), (9, .int .i64 1), (10, .bool true)] (by kernel_rfl) rfl ?_
  refine GL.k rfl hK36 (fun _ _ h => h) ?_
  refine G.seqK fun K37 hK38 => ?_
  refine G.yes rfl ?_
  refine G.skipK hK38 (fun _ _ h => h) ?_
  refine G.seqK fun K39 hK40 => ?_
  refine G.block ?_
  refine G.seqK fun K41 hK42 => ?_
  refine G.region ?_
  refine GL.sem (j := 1) (run_idxRd (P := Try.prog) (k := .i64) (t := 38) (A := A) (len := 2) (cap := c) (j := 1) (by kernel_rfl) rfl (hr.hp H31) (by first | exact dg_length _ | rw [dg_length]; first | rfl | assumption | (symm; assumption) | (simp; done) | (rw [List.length_take]; omega) | omega) (by omega)) [3, 7, 8, 9, 11] [(3, .slice A29 (ndg (1 * x)) c30), (7, .slice A 2 c), (8, .int .i64 2), (9, .int .i64 1), (11, .pointer (Option.map (fun x => Addr.add x 1) A))] (by kernel_rfl) (by kernel_rfl) rfl ?_
  refine GL.sem (j := 2) (run_ldRd (P := Try.prog) (ty := 22) (A := A) (j := 1) (v := .int .u64 (y : Int)) (by kernel_rfl) (hr.hp H31) (dg_at rfl)) [3, 7, 8, 9, 12] [(3, .slice A29 (ndg (1 * x)) c30), (7, .slice A 2 c), (8, .int .i64 2), (9, .int .i64 1), (12, .int .u64 (y : Int))] (by kernel_rfl) (by kernel_rfl) rfl ?_
  refine GL.run (j := 3) 1 [3, 5, 7, 8, 9] [(3, .slice A29 (ndg (1 * x)) c30), (5, .int .u64 (y : Int)), (7, .slice A 2 c), (8, .int .i64 2), (9, .int .i64 1)] (by kernel_rfl) rfl ?_
  refine GL.k rfl hK42 (fun _ _ h => h) ?_
  refine G.region ?_
  refine GL.run (j := 2) 2 [7, 8, 9, 13, 14] [(7, .slice A 2 c), (8, .int .i64 2), (9, .int .i64 1), (13, .slice A29 (ndg (1 * x)) c30), (14, .int .u64 (y : Int))] (by kernel_rfl) rfl ?_
  have hN48 : ndg y ≤ 4 := ndg_K hy
  refine GL.call (j := 3) (N5_calls y hy w33) (by kernel_rfl) rfl (fun e_ w47 hR => ?_)
  obtain ⟨A43, c44, rfl, H46⟩ := hR
  have H45 : Hp w [] [.row A5 (ndg 1) c6 22 1 (dg (digs 1)), .row A23 (ndg x) c24 22 1 (dg (digs x)), .row A29 (ndg (1 * x)) c30 22 1 (dg (digs (1 * x))), .row A43 (ndg y) c44 22 1 (dg (digs y))] w47 := H31.callNew H46
  refine ⟨_, rfl, [7, 8, 9, 13, 15], [(7, .slice A 2 c), (8, .int .i64 2), (9, .int .i64 1), (13, .slice A29 (ndg (1 * x)) c30), (15, .slice A43 (ndg y) c44)], by kernel_rfl, ?_⟩
  have hN54 : ndg ((1 * x) * y) ≤ 12 := ndg_mul hN34 hN48
  refine GL.call (j := 4) (MulN_calls (1 * x) y A29 c30 A43 c44 w47 (H45.rdRow 2 rfl) (H45.rdRow 3 rfl) (Nat.le_trans hN34 (by decide)) (Nat.le_trans hN48 (by decide))) (by kernel_rfl) rfl (fun e_ w53 hR => ?_)
  obtain ⟨A49, c50, rfl, H52⟩ := hR
  have H51 : Hp w [] [.row A5 (ndg 1) c6 22 1 (dg (digs 1)), .row A23 (ndg x) c24 22 1 (dg (digs x)), .row A29 (ndg (1 * x)) c30 22 1 (dg (digs (1 * x))), .row A43 (ndg y) c44 22 1 (dg (digs y)), .row A49 (ndg ((1 * x) * y)) c50 22 1 (dg (digs ((1 * x) * y)))] w53 := H45.callNew H52
  refine ⟨_, rfl, [7, 8, 9, 16], [(7, .slice A 2 c), (8, .int .i64 2), (9, .int .i64 1), (16, .slice A49 (ndg ((1 * x) * y)) c50)], by kernel_rfl, ?_⟩
  refine GL.run (j := 5) 1 [3, 7, 8, 9] [(3, .slice A49 (ndg ((1 * x) * y)) c50), (7, .slice A 2 c), (8, .int .i64 2), (9, .int .i64 1)] (by kernel_rfl) rfl ?_
  refine GL.k rfl hK40 (fun _ _ h => h) ?_
  refine G.region ?_
  refine GL.run (j := 2) 2 [3, 7, 8, 9] [(3, .slice A49 (ndg ((1 * x) * y)) c50), (7, .slice A 2 c), (8, .int .i64 2), (9, .int .i64 2)] (by kernel_rfl) rfl ?_
  refine GL.round rfl ?_
  refine G.seqK fun K55 hK56 => ?_
  refine G.region ?_
  refine GL.run (j := 1) 1 [3, 7, 8, 9, 10] [(3, .slice A49 (ndg ((1 * x) * y)) c50), (7, .slice A 2 c), (8, .int .i64 2), (9, .int .i64 2), (10, .bool false)] (by kernel_rfl) rfl ?_
  refine GL.k rfl hK56 (fun _ _ h => h) ?_
  refine G.seqK fun K57 hK58 => ?_
  refine G.no rfl ?_
  refine G.exitK hK12 (fun _ _ h => h) ?_
  refine G.seqK fun K59 hK60 => ?_
  refine G.region ?_
  refine GL.run (j := 2) 2 [2] [(2, .slice A49 (ndg ((1 * x) * y)) c50)] (by kernel_rfl) rfl ?_
  refine GL.k rfl hK60 (fun _ _ h => h) ?_
  refine G.ret ?_
  intro F_ hF_ hM_
  refine hRet _ _ (bodyPost_1 rfl (RV.tmp rfl) ?_ F_ hF_ hM_)
  have H61 : Hp w [] [.row A49 (ndg ((1 * x) * y)) c50 22 1 (dg (digs ((1 * x) * y)))] w53 := H51.sub (List.Sublist.cons _ (List.Sublist.cons _ (List.Sublist.cons _ (List.Sublist.cons _ (List.Sublist.cons_cons _ (List.Sublist.slnil))))))
  have e0 : ((1 * x) * y) = x * y := by rw [Nat.one_mul]
  have HF := H61
  rw [e0] at HF
  rw [e0]
  exact ⟨_, _, rfl, HF⟩
theorem Product5_3 (x y z : Nat) (hx : x < K) (hy : y < K) (hz : z < K) (A : Option Addr) (c : Nat) (w : World) (hr : RdS w A (dg [x, y, z])) : Calls Try.prog 10 #[.slice A 3 c] w fun e w' => ∃ A c, e = .returned ((.slice A (ndg (x * y * z)) c)) ∧ Hp w [] [.row A (ndg (x * y * z)) c 22 1 (dg (digs (x * y * z)))] w' := by
  refine calls_G (args := [.slice A 3 c]) Try.func10 rfl Try.ntmps10 rfl ?_
  intro Q0 hRet hNor hPan
  have H := Hp.start w
  have H : Hp w [] [] w := H
  refine G.seqK fun K1 hK2 => ?_
  refine G.region ?_
  refine GL.run (j := 1) 1 [0] [(0, .slice A 3 c)] (by kernel_rfl) rfl ?_
  refine GL.k rfl hK2 (fun _ _ h => h) ?_
  refine G.seqK fun K3 hK4 => ?_
  refine G.region ?_
  have hN10 : ndg 1 ≤ 4 := ndg_K (by decide)
  refine GL.call (j := 1) (N5_calls 1 (by decide) w) (by kernel_rfl) rfl (fun e_ w9 hR => ?_)
  obtain ⟨A5, c6, rfl, H8⟩ := hR
  have H7 : Hp w [] [.row A5 (ndg 1) c6 22 1 (dg (digs 1))] w9 := H.callNew H8
  refine ⟨_, rfl, [0, 6], [(0, .slice A 3 c), (6, .slice A5 (ndg 1) c6)], by kernel_rfl, ?_⟩
  refine GL.run (j := 2) 1 [0, 3] [(0, .slice A 3 c), (3, .slice A5 (ndg 1) c6)] (by kernel_rfl) rfl ?_
  refine GL.k rfl hK4 (fun _ _ h => h) ?_
  refine G.seqK fun K11 hK12 => ?_
  refine G.seqK fun K13 hK14 => ?_
  refine G.region ?_
  refine GL.run (j := 3) 3 [3, 7, 8, 9] [(3, .slice A5 (ndg 1) c6), (7, .slice A 3 c), (8, .int .i64 3), (9, .int .i64 0)] (by kernel_rfl) rfl ?_
  refine GL.k rfl hK14 (fun _ _ h => h) ?_
  refine G.block ?_
  refine G.unroll 3 ?_
  refine G.seqK fun K15 hK16 => ?_
  refine G.region ?_
  refine GL.run (j := 1) 1 [3, 7, 8, 9, 10] [(3, .slice A5 (ndg 1) c6), (7, .slice A 3 c), (8, .int .i64 3), (9, .int .i64 0), (10, .bool true)] (by kernel_rfl) rfl ?_
  refine GL.k rfl hK16 (fun _ _ h => h) ?_
  refine G.seqK fun K17 hK18 => ?_
  refine G.yes rfl ?_
  refine G.skipK hK18 (fun _ _ h => h) ?_
  refine G.seqK fun K19 hK20 => ?_
  refine G.block ?_
  refine G.seqK fun K21 hK22 => ?_
  refine G.region ?_
  refine GL.sem (j := 1) (run_idxRd (P := Try.prog) (k := .i64) (t := 38) (A := A) (len := 3) (cap := c) (j := 0) (by kernel_rfl) rfl (hr.hp H7) (by first | exact dg_length _ | rw [dg_length]; first | rfl | assumption | (symm; assumption) | (simp; done) | (rw [List.length_take]; omega) | omega) (by omega)) [3, 7, 8, 9, 11] [(3, .slice A5 (ndg 1) c6), (7, .slice A 3 c), (8, .int .i64 3), (9, .int .i64 0), (11, .pointer (Option.map (fun x => Addr.add x 0) A))] (by kernel_rfl) (by kernel_rfl) rfl ?_
  refine GL.sem (j := 2) (run_ldRd (P := Try.prog) (ty := 22) (A := A) (j := 0) (v := .int .u64 (x : Int)) (by kernel_rfl) (hr.hp H7) (dg_at rfl)) [3, 7, 8, 9, 12] [(3, .slice A5 (ndg 1) c6), (7, .slice A 3 c), (8, .int .i64 3), (9, .int .i64 0), (12, .int .u64 (x : Int))] (by kernel_rfl) (by kernel_rfl) rfl ?_
  refine GL.run (j := 3) 1 [3, 5, 7, 8, 9] [(3, .slice A5 (ndg 1) c6), (5, .int .u64 (x : Int)), (7, .slice A 3 c), (8, .int .i64 3), (9, .int .i64 0)] (by kernel_rfl) rfl ?_
  refine GL.k rfl hK22 (fun _ _ h => h) ?_
  refine G.region ?_
  refine GL.run (j := 2) 2 [7, 8, 9, 13, 14] [(7, .slice A 3 c), (8, .int .i64 3), (9, .int .i64 0), (13, .slice A5 (ndg 1) c6), (14, .int .u64 (x : Int))] (by kernel_rfl) rfl ?_
  have hN28 : ndg x ≤ 4 := ndg_K hx
  refine GL.call (j := 3) (N5_calls x hx w9) (by kernel_rfl) rfl (fun e_ w27 hR => ?_)
  obtain ⟨A23, c24, rfl, H26⟩ := hR
  have H25 : Hp w [] [.row A5 (ndg 1) c6 22 1 (dg (digs 1)), .row A23 (ndg x) c24 22 1 (dg (digs x))] w27 := H7.callNew H26
  refine ⟨_, rfl, [7, 8, 9, 13, 15], [(7, .slice A 3 c), (8, .int .i64 3), (9, .int .i64 0), (13, .slice A5 (ndg 1) c6), (15, .slice A23 (ndg x) c24)], by kernel_rfl, ?_⟩
  have hN34 : ndg (1 * x) ≤ 8 := ndg_mul hN10 hN28
  refine GL.call (j := 4) (MulN_calls 1 x A5 c6 A23 c24 w27 (H25.rdRow 0 rfl) (H25.rdRow 1 rfl) (Nat.le_trans hN10 (by decide)) (Nat.le_trans hN28 (by decide))) (by kernel_rfl) rfl (fun e_ w33 hR => ?_)
  obtain ⟨A29, c30, rfl, H32⟩ := hR
  have H31 : Hp w [] [.row A5 (ndg 1) c6 22 1 (dg (digs 1)), .row A23 (ndg x) c24 22 1 (dg (digs x)), .row A29 (ndg (1 * x)) c30 22 1 (dg (digs (1 * x)))] w33 := H25.callNew H32
  refine ⟨_, rfl, [7, 8, 9, 16], [(7, .slice A 3 c), (8, .int .i64 3), (9, .int .i64 0), (16, .slice A29 (ndg (1 * x)) c30)], by kernel_rfl, ?_⟩
  refine GL.run (j := 5) 1 [3, 7, 8, 9] [(3, .slice A29 (ndg (1 * x)) c30), (7, .slice A 3 c), (8, .int .i64 3), (9, .int .i64 0)] (by kernel_rfl) rfl ?_
  refine GL.k rfl hK20 (fun _ _ h => h) ?_
  refine G.region ?_
  refine GL.run (j := 2) 2 [3, 7, 8, 9] [(3, .slice A29 (ndg (1 * x)) c30), (7, .slice A 3 c), (8, .int .i64 3), (9, .int .i64 1)] (by kernel_rfl) rfl ?_
  refine GL.round rfl ?_
  refine G.seqK fun K35 hK36 => ?_
  refine G.region ?_
  refine GL.run (j := 1) 1 [3, 7, 8, 9, 10] [(3, .slice A29 (ndg (1 * x)) c30), (7, .slice A 3 c), (8, .int .i64 3), (9, .int .i64 1), (10, .bool true)] (by kernel_rfl) rfl ?_
  refine GL.k rfl hK36 (fun _ _ h => h) ?_
  refine G.seqK fun K37 hK38 => ?_
  refine G.yes rfl ?_
  refine G.skipK hK38 (fun _ _ h => h) ?_
  refine G.seqK fun K39 hK40 => ?_
  refine G.block ?_
  refine G.seqK fun K41 hK42 => ?_
  refine G.region ?_
  refine GL.sem (j := 1) (run_idxRd (P := Try.prog) (k := .i64) (t := 38) (A := A) (len := 3) (cap := c) (j := 1) (by kernel_rfl) rfl (hr.hp H31) (by first | exact dg_length _ | rw [dg_length]; first | rfl | assumption | (symm; assumption) | (simp; done) | (rw [List.length_take]; omega) | omega) (by omega)) [3, 7, 8, 9, 11] [(3, .slice A29 (ndg (1 * x)) c30), (7, .slice A 3 c), (8, .int .i64 3), (9, .int .i64 1), (11, .pointer (Option.map (fun x => Addr.add x 1) A))] (by kernel_rfl) (by kernel_rfl) rfl ?_
  refine GL.sem (j := 2) (run_ldRd (P := Try.prog) (ty := 22) (A := A) (j := 1) (v := .int .u64 (y : Int)) (by kernel_rfl) (hr.hp H31) (dg_at rfl)) [3, 7, 8, 9, 12] [(3, .slice A29 (ndg (1 * x)) c30), (7, .slice A 3 c), (8, .int .i64 3), (9, .int .i64 1), (12, .int .u64 (y : Int))] (by kernel_rfl) (by kernel_rfl) rfl ?_
  refine GL.run (j := 3) 1 [3, 5, 7, 8, 9] [(3, .slice A29 (ndg (1 * x)) c30), (5, .int .u64 (y : Int)), (7, .slice A 3 c), (8, .int .i64 3), (9, .int .i64 1)] (by kernel_rfl) rfl ?_
  refine GL.k rfl hK42 (fun _ _ h => h) ?_
  refine G.region ?_
  refine GL.run (j := 2) 2 [7, 8, 9, 13, 14] [(7, .slice A 3 c), (8, .int .i64 3), (9, .int .i64 1), (13, .slice A29 (ndg (1 * x)) c30), (14, .int .u64 (y : Int))] (by kernel_rfl) rfl ?_
  have hN48 : ndg y ≤ 4 := ndg_K hy
  refine GL.call (j := 3) (N5_calls y hy w33) (by kernel_rfl) rfl (fun e_ w47 hR => ?_)
  obtain ⟨A43, c44, rfl, H46⟩ := hR
  have H45 : Hp w [] [.row A5 (ndg 1) c6 22 1 (dg (digs 1)), .row A23 (ndg x) c24 22 1 (dg (digs x)), .row A29 (ndg (1 * x)) c30 22 1 (dg (digs (1 * x))), .row A43 (ndg y) c44 22 1 (dg (digs y))] w47 := H31.callNew H46
  refine ⟨_, rfl, [7, 8, 9, 13, 15], [(7, .slice A 3 c), (8, .int .i64 3), (9, .int .i64 1), (13, .slice A29 (ndg (1 * x)) c30), (15, .slice A43 (ndg y) c44)], by kernel_rfl, ?_⟩
  have hN54 : ndg ((1 * x) * y) ≤ 12 := ndg_mul hN34 hN48
  refine GL.call (j := 4) (MulN_calls (1 * x) y A29 c30 A43 c44 w47 (H45.rdRow 2 rfl) (H45.rdRow 3 rfl) (Nat.le_trans hN34 (by decide)) (Nat.le_trans hN48 (by decide))) (by kernel_rfl) rfl (fun e_ w53 hR => ?_)
  obtain ⟨A49, c50, rfl, H52⟩ := hR
  have H51 : Hp w [] [.row A5 (ndg 1) c6 22 1 (dg (digs 1)), .row A23 (ndg x) c24 22 1 (dg (digs x)), .row A29 (ndg (1 * x)) c30 22 1 (dg (digs (1 * x))), .row A43 (ndg y) c44 22 1 (dg (digs y)), .row A49 (ndg ((1 * x) * y)) c50 22 1 (dg (digs ((1 * x) * y)))] w53 := H45.callNew H52
  refine ⟨_, rfl, [7, 8, 9, 16], [(7, .slice A 3 c), (8, .int .i64 3), (9, .int .i64 1), (16, .slice A49 (ndg ((1 * x) * y)) c50)], by kernel_rfl, ?_⟩
  refine GL.run (j := 5) 1 [3, 7, 8, 9] [(3, .slice A49 (ndg ((1 * x) * y)) c50), (7, .slice A 3 c), (8, .int .i64 3), (9, .int .i64 1)] (by kernel_rfl) rfl ?_
  refine GL.k rfl hK40 (fun _ _ h => h) ?_
  refine G.region ?_
  refine GL.run (j := 2) 2 [3, 7, 8, 9] [(3, .slice A49 (ndg ((1 * x) * y)) c50), (7, .slice A 3 c), (8, .int .i64 3), (9, .int .i64 2)] (by kernel_rfl) rfl ?_
  refine GL.round rfl ?_
  refine G.seqK fun K55 hK56 => ?_
  refine G.region ?_
  refine GL.run (j := 1) 1 [3, 7, 8, 9, 10] [(3, .slice A49 (ndg ((1 * x) * y)) c50), (7, .slice A 3 c), (8, .int .i64 3), (9, .int .i64 2), (10, .bool true)] (by kernel_rfl) rfl ?_
  refine GL.k rfl hK56 (fun _ _ h => h) ?_
  refine G.seqK fun K57 hK58 => ?_
  refine G.yes rfl ?_
  refine G.skipK hK58 (fun _ _ h => h) ?_
  refine G.seqK fun K59 hK60 => ?_
  refine G.block ?_
  refine G.seqK fun K61 hK62 => ?_
  refine G.region ?_
  refine GL.sem (j := 1) (run_idxRd (P := Try.prog) (k := .i64) (t := 38) (A := A) (len := 3) (cap := c) (j := 2) (by kernel_rfl) rfl (hr.hp H51) (by first | exact dg_length _ | rw [dg_length]; first | rfl | assumption | (symm; assumption) | (simp; done) | (rw [List.length_take]; omega) | omega) (by omega)) [3, 7, 8, 9, 11] [(3, .slice A49 (ndg ((1 * x) * y)) c50), (7, .slice A 3 c), (8, .int .i64 3), (9, .int .i64 2), (11, .pointer (Option.map (fun x => Addr.add x 2) A))] (by kernel_rfl) (by kernel_rfl) rfl ?_
  refine GL.sem (j := 2) (run_ldRd (P := Try.prog) (ty := 22) (A := A) (j := 2) (v := .int .u64 (z : Int)) (by kernel_rfl) (hr.hp H51) (dg_at rfl)) [3, 7, 8, 9, 12] [(3, .slice A49 (ndg ((1 * x) * y)) c50), (7, .slice A 3 c), (8, .int .i64 3), (9, .int .i64 2), (12, .int .u64 (z : Int))] (by kernel_rfl) (by kernel_rfl) rfl ?_
  refine GL.run (j := 3) 1 [3, 5, 7, 8, 9] [(3, .slice A49 (ndg ((1 * x) * y)) c50), (5, .int .u64 (z : Int)), (7, .slice A 3 c), (8, .int .i64 3), (9, .int .i64 2)] (by kernel_rfl) rfl ?_
  refine GL.k rfl hK62 (fun _ _ h => h) ?_
  refine G.region ?_
  refine GL.run (j := 2) 2 [7, 8, 9, 13, 14] [(7, .slice A 3 c), (8, .int .i64 3), (9, .int .i64 2), (13, .slice A49 (ndg ((1 * x) * y)) c50), (14, .int .u64 (z : Int))] (by kernel_rfl) rfl ?_
  have hN68 : ndg z ≤ 4 := ndg_K hz
  refine GL.call (j := 3) (N5_calls z hz w53) (by kernel_rfl) rfl (fun e_ w67 hR => ?_)
  obtain ⟨A63, c64, rfl, H66⟩ := hR
  have H65 : Hp w [] [.row A5 (ndg 1) c6 22 1 (dg (digs 1)), .row A23 (ndg x) c24 22 1 (dg (digs x)), .row A29 (ndg (1 * x)) c30 22 1 (dg (digs (1 * x))), .row A43 (ndg y) c44 22 1 (dg (digs y)), .row A49 (ndg ((1 * x) * y)) c50 22 1 (dg (digs ((1 * x) * y))), .row A63 (ndg z) c64 22 1 (dg (digs z))] w67 := H51.callNew H66
  refine ⟨_, rfl, [7, 8, 9, 13, 15], [(7, .slice A 3 c), (8, .int .i64 3), (9, .int .i64 2), (13, .slice A49 (ndg ((1 * x) * y)) c50), (15, .slice A63 (ndg z) c64)], by kernel_rfl, ?_⟩
  have hN74 : ndg (((1 * x) * y) * z) ≤ 16 := ndg_mul hN54 hN68
  refine GL.call (j := 4) (MulN_calls ((1 * x) * y) z A49 c50 A63 c64 w67 (H65.rdRow 4 rfl) (H65.rdRow 5 rfl) (Nat.le_trans hN54 (by decide)) (Nat.le_trans hN68 (by decide))) (by kernel_rfl) rfl (fun e_ w73 hR => ?_)
  obtain ⟨A69, c70, rfl, H72⟩ := hR
  have H71 : Hp w [] [.row A5 (ndg 1) c6 22 1 (dg (digs 1)), .row A23 (ndg x) c24 22 1 (dg (digs x)), .row A29 (ndg (1 * x)) c30 22 1 (dg (digs (1 * x))), .row A43 (ndg y) c44 22 1 (dg (digs y)), .row A49 (ndg ((1 * x) * y)) c50 22 1 (dg (digs ((1 * x) * y))), .row A63 (ndg z) c64 22 1 (dg (digs z)), .row A69 (ndg (((1 * x) * y) * z)) c70 22 1 (dg (digs (((1 * x) * y) * z)))] w73 := H65.callNew H72
  refine ⟨_, rfl, [7, 8, 9, 16], [(7, .slice A 3 c), (8, .int .i64 3), (9, .int .i64 2), (16, .slice A69 (ndg (((1 * x) * y) * z)) c70)], by kernel_rfl, ?_⟩
  refine GL.run (j := 5) 1 [3, 7, 8, 9] [(3, .slice A69 (ndg (((1 * x) * y) * z)) c70), (7, .slice A 3 c), (8, .int .i64 3), (9, .int .i64 2)] (by kernel_rfl) rfl ?_
  refine GL.k rfl hK60 (fun _ _ h => h) ?_
  refine G.region ?_
  refine GL.run (j := 2) 2 [3, 7, 8, 9] [(3, .slice A69 (ndg (((1 * x) * y) * z)) c70), (7, .slice A 3 c), (8, .int .i64 3), (9, .int .i64 3)] (by kernel_rfl) rfl ?_
  refine GL.round rfl ?_
  refine G.seqK fun K75 hK76 => ?_
  refine G.region ?_
  refine GL.run (j := 1) 1 [3, 7, 8, 9, 10] [(3, .slice A69 (ndg (((1 * x) * y) * z)) c70), (7, .slice A 3 c), (8, .int .i64 3), (9, .int .i64 3), (10, .bool false)] (by kernel_rfl) rfl ?_
  refine GL.k rfl hK76 (fun _ _ h => h) ?_
  refine G.seqK fun K77 hK78 => ?_
  refine G.no rfl ?_
  refine G.exitK hK12 (fun _ _ h => h) ?_
  refine G.seqK fun K79 hK80 => ?_
  refine G.region ?_
  refine GL.run (j := 2) 2 [2] [(2, .slice A69 (ndg (((1 * x) * y) * z)) c70)] (by kernel_rfl) rfl ?_
  refine GL.k rfl hK80 (fun _ _ h => h) ?_
  refine G.ret ?_
  intro F_ hF_ hM_
  refine hRet _ _ (bodyPost_1 rfl (RV.tmp rfl) ?_ F_ hF_ hM_)
  have H81 : Hp w [] [.row A69 (ndg (((1 * x) * y) * z)) c70 22 1 (dg (digs (((1 * x) * y) * z)))] w73 := H71.sub (List.Sublist.cons _ (List.Sublist.cons _ (List.Sublist.cons _ (List.Sublist.cons _ (List.Sublist.cons _ (List.Sublist.cons _ (List.Sublist.cons_cons _ (List.Sublist.slnil))))))))
  have e0 : (((1 * x) * y) * z) = x * y * z := by rw [Nat.one_mul]
  have HF := H81
  rw [e0] at HF
  rw [e0]
  exact ⟨_, _, rfl, HF⟩
theorem Divide5_up (a b : Nat) (A : Option Addr) (c : Nat) (B : Option Addr) (d : Nat) (w : World) (hr : RdS w A (dg (digs a))) (hs : RdS w B (dg (digs b))) (hna : ndg a ≤ 900) (hnb : ndg b ≤ 900) (hb0 : b ≠ 0) : Calls Try.prog 9 #[.slice A (ndg a) c, .slice B (ndg b) d, .bool true] w fun e w' => e = .returned (.tuple #[.int .u64 ((divV a b true : Nat) : Int), .bool (divF a b true)]) ∧ Hp w [] [] w' := by
  have hMX : MX = 4611686018427387904 := rfl
  have hK0 : K = 18446744073709551616 := rfl
  have hK40 : K4 = 115792089237316195423570985008687907853269984665640564039457584007913129639936 := rfl
  refine calls_G (args := [.slice A (ndg a) c, .slice B (ndg b) d, .bool true]) Try.func9 rfl Try.ntmps9 rfl ?_
  intro Q0 hRet hNor hPan
  have H := Hp.start w
  have H : Hp w [] [] w := H
  refine G.seqK fun K1 hK2 => ?_
  refine G.region ?_
  refine GL.run (j := 2) 2 [0, 1, 2] [(0, .slice A (ndg a) c), (1, .slice B (ndg b) d), (2, .bool true)] (by kernel_rfl) rfl ?_
  refine GL.k rfl hK2 (fun _ _ h => h) ?_
  refine G.seqK fun K3 hK4 => ?_
  refine G.region ?_
  refine GL.run (j := 2) 2 [2, 13, 14] [(2, .bool true), (13, .slice A (ndg a) c), (14, .slice B (ndg b) d)] (by kernel_rfl) rfl ?_
  have hN12 : ndg (a / b) ≤ 900 := ndg_div hna
  have hN13 : ndg (a % b) ≤ 900 := ndg_mod hna
  refine GL.call (j := 3) (DivN_calls a b A c B d w (hr.hp H) (hs.hp H) (Nat.le_trans hna (by decide)) (Nat.le_trans hnb (by decide)) (hb0)) (by kernel_rfl) rfl (fun e_ w11 hR => ?_)
  obtain ⟨A5, c6, A7, c8, rfl, H10⟩ := hR
  have H9 : Hp w [] [.row A7 (ndg (a % b)) c8 22 1 (dg (digs (a % b))), .row A5 (ndg (a / b)) c6 22 1 (dg (digs (a / b)))] w11 := H.callNew H10
  refine ⟨_, rfl, [2, 15], [(2, .bool true), (15, .tuple #[.slice A5 (ndg (a / b)) c6, .slice A7 (ndg (a % b)) c8])], by kernel_rfl, ?_⟩
  refine GL.run (j := 8) 5 [2, 8, 9] [(2, .bool true), (8, .slice A5 (ndg (a / b)) c6), (9, .slice A7 (ndg (a % b)) c8)] (by kernel_rfl) rfl ?_
  refine GL.k rfl hK4 (fun _ _ h => h) ?_
  refine G.seqK fun K14 hK15 => ?_
  refine G.seqK fun K16 hK17 => ?_
  refine G.region ?_
  refine GL.run (j := 6) 6 [8, 23] [(8, .slice A5 (ndg (a / b)) c6), (23, .bool (decide (0 < (((ndg (a % b)) : Nat) : Int))))] (by kernel_rfl) rfl ?_
  refine GL.k rfl hK17 (fun _ _ h => h) ?_
  cases hb18 : (decide (0 < (((ndg (a % b)) : Nat) : Int)))
  · skip
    have hb18f := of_decide_eq_false hb18
    have hrest : a % b = 0 := by have := @ndg_pos (a % b); omega
    refine G.no rfl ?_
    refine G.skipK hK15 (fun _ _ h => h) ?_
    refine G.seqK fun K19 hK20 => ?_
    refine G.seqK fun K21 hK22 => ?_
    refine G.region ?_
    refine GL.run (j := 1) 1 [8, 27] [(8, .slice A5 (ndg (a / b)) c6), (27, .slice A5 (ndg (a / b)) c6)] (by kernel_rfl) rfl ?_
    have hN28 : ndg 4611686018427387904 ≤ 4 := ndg_K (by decide)
    refine GL.call (j := 2) (N5_calls 4611686018427387904 (by decide) w11) (by kernel_rfl) rfl (fun e_ w27 hR => ?_)
    obtain ⟨A23, c24, rfl, H26⟩ := hR
    have H25 : Hp w [] [.row A7 (ndg (a % b)) c8 22 1 (dg (digs (a % b))), .row A5 (ndg (a / b)) c6 22 1 (dg (digs (a / b))), .row A23 (ndg 4611686018427387904) c24 22 1 (dg (digs 4611686018427387904))] w27 := H9.callNew H26
    refine ⟨_, rfl, [8, 27, 28], [(8, .slice A5 (ndg (a / b)) c6), (27, .slice A5 (ndg (a / b)) c6), (28, .slice A23 (ndg 4611686018427387904) c24)], by kernel_rfl, ?_⟩
    refine GL.call (j := 3) (CmpN_calls (a / b) 4611686018427387904 A5 A23 c6 c24 w27 (H25.rdRow 1 rfl) (H25.rdRow 2 rfl) (Nat.le_trans hN12 (by decide)) (Nat.le_trans hN28 (by decide))) (by kernel_rfl) rfl (fun e_ w29 hR => ?_)
    obtain ⟨rfl, H31⟩ := hR
    have H30 : Hp w [] [.row A7 (ndg (a % b)) c8 22 1 (dg (digs (a % b))), .row A5 (ndg (a / b)) c6 22 1 (dg (digs (a / b))), .row A23 (ndg 4611686018427387904) c24 22 1 (dg (digs 4611686018427387904))] w29 := H25.callNil H31
    refine ⟨_, rfl, [8, 29], [(8, .slice A5 (ndg (a / b)) c6), (29, .int .i64 (cmpN (a / b) 4611686018427387904))], by kernel_rfl, ?_⟩
    refine GL.run (j := 4) 1 [8, 30] [(8, .slice A5 (ndg (a / b)) c6), (30, .bool (decide (0 < (cmpN (a / b) 4611686018427387904))))] (by kernel_rfl) rfl ?_
    refine GL.k rfl hK22 (fun _ _ h => h) ?_
    cases hb32 : (decide (0 < (cmpN (a / b) 4611686018427387904)))
    · skip
      have hb32f := of_decide_eq_false hb32
      have hov : ¬ 4611686018427387904 < (a / b) := fun h => hb32f (cmp_gt0.2 h)
      refine G.no rfl ?_
      refine G.skipK hK20 (fun _ _ h => h) ?_
      refine G.seqK fun K33 hK34 => ?_
      refine G.region ?_
      refine GL.run (j := 1) 1 [32] [(32, .slice A5 (ndg (a / b)) c6)] (by kernel_rfl) rfl ?_
      refine GL.call (j := 2) (WordsN_calls (a / b) A5 c6 w29 (H30.rdRow 1 rfl) (Nat.le_trans hN12 (by decide))) (by kernel_rfl) rfl (fun e_ w35 hR => ?_)
      obtain ⟨rfl, H37⟩ := hR
      have H36 : Hp w [] [.row A7 (ndg (a % b)) c8 22 1 (dg (digs (a % b))), .row A5 (ndg (a / b)) c6 22 1 (dg (digs (a / b))), .row A23 (ndg 4611686018427387904) c24 22 1 (dg (digs 4611686018427387904))] w35 := H30.callNil H37
      refine ⟨_, rfl, [33], [(33, .tuple #[wv ((a / b) % K4), .bool (decide (K4 ≤ (a / b)))])], by kernel_rfl, ?_⟩
      refine GL.run (j := 5) 3 [34, 35] [(34, wv ((a / b) % K4)), (35, .bool (decide (K4 ≤ (a / b))))] (by kernel_rfl) rfl ?_
      obtain ⟨p38, w39, r40, H41⟩ := H36.alloc (P := Try.prog) 48 [.int .u64 0, .int .u64 0, .int .u64 0, .int .u64 0] (by kernel_rfl)
      have H41 : Hp w [] [.row A7 (ndg (a % b)) c8 22 1 (dg (digs (a % b))), .row A5 (ndg (a / b)) c6 22 1 (dg (digs (a / b))), .row A23 (ndg 4611686018427387904) c24 22 1 (dg (digs 4611686018427387904)), .blk p38 [.int .u64 0, .int .u64 0, .int .u64 0, .int .u64 0] 48] w39 := H41
      refine GL.sem (j := 6) (r40) [10, 34, 35] [(10, pt p38 0), (34, wv ((a / b) % K4)), (35, .bool (decide (K4 ≤ (a / b))))] (by kernel_rfl) (by kernel_rfl) rfl ?_
      obtain ⟨w42, r43, H44⟩ := H41.stA (P := Try.prog) (o := 0) (vs := [.int .u64 (wd ((a / b) % K4) 0 : Int), .int .u64 (wd ((a / b) % K4) 1 : Int), .int .u64 (wd ((a / b) % K4) 2 : Int), .int .u64 (wd ((a / b) % K4) 3 : Int)]) (ty := 48) (m := 4) 3 rfl (by kernel_rfl) rfl (by simp) (by simp [Value.oneCell'])
      have H44 : Hp w [] [.row A7 (ndg (a % b)) c8 22 1 (dg (digs (a % b))), .row A5 (ndg (a / b)) c6 22 1 (dg (digs (a / b))), .row A23 (ndg 4611686018427387904) c24 22 1 (dg (digs 4611686018427387904)), .blk p38 [.int .u64 (wd ((a / b) % K4) 0 : Int), .int .u64 (wd ((a / b) % K4) 1 : Int), .int .u64 (wd ((a / b) % K4) 2 : Int), .int .u64 (wd ((a / b) % K4) 3 : Int)] 48] w42 := H44
      refine GL.semU (j := 7) r43 [10, 35] [(10, pt p38 0), (35, .bool (decide (K4 ≤ (a / b))))] (by kernel_rfl) rfl rfl rfl ?_
      refine GL.run (j := 8) 1 [10] [(10, pt p38 0)] (by kernel_rfl) rfl ?_
      refine GL.k rfl hK34 (fun _ _ h => h) ?_
      refine G.seqK fun K45 hK46 => ?_
      refine G.region ?_
      refine GL.run (j := 1) 1 [36] [(36, pt p38 0)] (by kernel_rfl) rfl ?_
      refine GL.sem (j := 2) (H44.ld (o := 0) (ty := 22) (v := .int .u64 (wd ((a / b) % K4) 0 : Int)) 3 rfl (by kernel_rfl) rfl) [37] [(37, .int .u64 (wd ((a / b) % K4) 0 : Int))] (by kernel_rfl) (by kernel_rfl) rfl ?_
      refine GL.run (j := 4) 2 [6, 7] [(6, .int .u64 (wd ((a / b) % K4) 0 : Int)), (7, .bool true)] (by kernel_rfl) rfl ?_
      refine GL.k rfl hK46 (fun _ _ h => h) ?_
      refine G.ret ?_
      intro F_ hF_ hM_
      refine hRet _ _ (bodyPost_2 rfl (RV.tmp rfl) (RV.tmp rfl) ?_ F_ hF_ hM_)
      have hq : divQ a b true = (a / b) := divQ_none hrest
      obtain ⟨e1, e2⟩ := div_fits hq (by omega)
      rw [low_word (by omega)]
      rw [e1, e2]
      exact ⟨rfl, H44.sub (List.nil_sublist _)⟩
    · skip
      have hb32f := of_decide_eq_true hb32
      have hov : 4611686018427387904 < (a / b) := cmp_gt0.1 hb32f
      refine G.yes rfl ?_
      refine G.seqK fun K47 hK48 => ?_
      refine G.region ?_
      refine GL.run (j := 2) 2 [6, 7] [(6, .int .u64 0), (7, .bool false)] (by kernel_rfl) rfl ?_
      refine GL.k rfl hK48 (fun _ _ h => h) ?_
      refine G.ret ?_
      intro F_ hF_ hM_
      refine hRet _ _ (bodyPost_2 rfl (RV.tmp rfl) (RV.tmp rfl) ?_ F_ hF_ hM_)
      have hq : divQ a b true = (a / b) := divQ_none hrest
      obtain ⟨e1, e2⟩ := div_over hq (by omega)
      rw [e1, e2]
      exact ⟨rfl, H30.sub (List.nil_sublist _)⟩
  · skip
    have hb18f := of_decide_eq_true hb18
    have hrest : a % b ≠ 0 := by have := @ndg_pos (a % b); omega
    refine G.yes rfl ?_
    refine G.region ?_
    refine GL.run (j := 1) 1 [24] [(24, .slice A5 (ndg (a / b)) c6)] (by kernel_rfl) rfl ?_
    have hN54 : ndg 1 ≤ 4 := ndg_K (by decide)
    refine GL.call (j := 2) (N5_calls 1 (by decide) w11) (by kernel_rfl) rfl (fun e_ w53 hR => ?_)
    obtain ⟨A49, c50, rfl, H52⟩ := hR
    have H51 : Hp w [] [.row A7 (ndg (a % b)) c8 22 1 (dg (digs (a % b))), .row A5 (ndg (a / b)) c6 22 1 (dg (digs (a / b))), .row A49 (ndg 1) c50 22 1 (dg (digs 1))] w53 := H9.callNew H52
    refine ⟨_, rfl, [24, 25], [(24, .slice A5 (ndg (a / b)) c6), (25, .slice A49 (ndg 1) c50)], by kernel_rfl, ?_⟩
    have hN60 : ndg ((a / b) + 1) ≤ 901 := ndg_add (i := 900) (Nat.le_trans hN12 (by decide)) (Nat.le_trans hN54 (by decide))
    refine GL.call (j := 3) (AddN_calls (a / b) 1 A5 c6 A49 c50 w53 (H51.rdRow 1 rfl) (H51.rdRow 2 rfl) (Nat.le_trans hN12 (by decide)) (Nat.le_trans hN54 (by decide))) (by kernel_rfl) rfl (fun e_ w59 hR => ?_)
    obtain ⟨A55, c56, rfl, H58⟩ := hR
    have H57 : Hp w [] [.row A7 (ndg (a % b)) c8 22 1 (dg (digs (a % b))), .row A5 (ndg (a / b)) c6 22 1 (dg (digs (a / b))), .row A49 (ndg 1) c50 22 1 (dg (digs 1)), .row A55 (ndg ((a / b) + 1)) c56 22 1 (dg (digs ((a / b) + 1)))] w59 := H51.callNew H58
    refine ⟨_, rfl, [26], [(26, .slice A55 (ndg ((a / b) + 1)) c56)], by kernel_rfl, ?_⟩
    refine GL.run (j := 4) 1 [8] [(8, .slice A55 (ndg ((a / b) + 1)) c56)] (by kernel_rfl) rfl ?_
    refine GL.k rfl hK15 (fun _ _ h => h) ?_
    refine G.seqK fun K61 hK62 => ?_
    refine G.seqK fun K63 hK64 => ?_
    refine G.region ?_
    refine GL.run (j := 1) 1 [8, 27] [(8, .slice A55 (ndg ((a / b) + 1)) c56), (27, .slice A55 (ndg ((a / b) + 1)) c56)] (by kernel_rfl) rfl ?_
    have hN70 : ndg 4611686018427387904 ≤ 4 := ndg_K (by decide)
    refine GL.call (j := 2) (N5_calls 4611686018427387904 (by decide) w59) (by kernel_rfl) rfl (fun e_ w69 hR => ?_)
    obtain ⟨A65, c66, rfl, H68⟩ := hR
    have H67 : Hp w [] [.row A7 (ndg (a % b)) c8 22 1 (dg (digs (a % b))), .row A5 (ndg (a / b)) c6 22 1 (dg (digs (a / b))), .row A49 (ndg 1) c50 22 1 (dg (digs 1)), .row A55 (ndg ((a / b) + 1)) c56 22 1 (dg (digs ((a / b) + 1))), .row A65 (ndg 4611686018427387904) c66 22 1 (dg (digs 4611686018427387904))] w69 := H57.callNew H68
    refine ⟨_, rfl, [8, 27, 28], [(8, .slice A55 (ndg ((a / b) + 1)) c56), (27, .slice A55 (ndg ((a / b) + 1)) c56), (28, .slice A65 (ndg 4611686018427387904) c66)], by kernel_rfl, ?_⟩
    refine GL.call (j := 3) (CmpN_calls ((a / b) + 1) 4611686018427387904 A55 A65 c56 c66 w69 (H67.rdRow 3 rfl) (H67.rdRow 4 rfl) (Nat.le_trans hN60 (by decide)) (Nat.le_trans hN70 (by decide))) (by kernel_rfl) rfl (fun e_ w71 hR => ?_)
    obtain ⟨rfl, H73⟩ := hR
    have H72 : Hp w [] [.row A7 (ndg (a % b)) c8 22 1 (dg (digs (a % b))), .row A5 (ndg (a / b)) c6 22 1 (dg (digs (a / b))), .row A49 (ndg 1) c50 22 1 (dg (digs 1)), .row A55 (ndg ((a / b) + 1)) c56 22 1 (dg (digs ((a / b) + 1))), .row A65 (ndg 4611686018427387904) c66 22 1 (dg (digs 4611686018427387904))] w71 := H67.callNil H73
    refine ⟨_, rfl, [8, 29], [(8, .slice A55 (ndg ((a / b) + 1)) c56), (29, .int .i64 (cmpN ((a / b) + 1) 4611686018427387904))], by kernel_rfl, ?_⟩
    refine GL.run (j := 4) 1 [8, 30] [(8, .slice A55 (ndg ((a / b) + 1)) c56), (30, .bool (decide (0 < (cmpN ((a / b) + 1) 4611686018427387904))))] (by kernel_rfl) rfl ?_
    refine GL.k rfl hK64 (fun _ _ h => h) ?_
    cases hb74 : (decide (0 < (cmpN ((a / b) + 1) 4611686018427387904)))
    · skip
      have hb74f := of_decide_eq_false hb74
      have hov : ¬ 4611686018427387904 < ((a / b) + 1) := fun h => hb74f (cmp_gt0.2 h)
      refine G.no rfl ?_
      refine G.skipK hK62 (fun _ _ h => h) ?_
      refine G.seqK fun K75 hK76 => ?_
      refine G.region ?_
      refine GL.run (j := 1) 1 [32] [(32, .slice A55 (ndg ((a / b) + 1)) c56)] (by kernel_rfl) rfl ?_
      refine GL.call (j := 2) (WordsN_calls ((a / b) + 1) A55 c56 w71 (H72.rdRow 3 rfl) (Nat.le_trans hN60 (by decide))) (by kernel_rfl) rfl (fun e_ w77 hR => ?_)
      obtain ⟨rfl, H79⟩ := hR
      have H78 : Hp w [] [.row A7 (ndg (a % b)) c8 22 1 (dg (digs (a % b))), .row A5 (ndg (a / b)) c6 22 1 (dg (digs (a / b))), .row A49 (ndg 1) c50 22 1 (dg (digs 1)), .row A55 (ndg ((a / b) + 1)) c56 22 1 (dg (digs ((a / b) + 1))), .row A65 (ndg 4611686018427387904) c66 22 1 (dg (digs 4611686018427387904))] w77 := H72.callNil H79
      refine ⟨_, rfl, [33], [(33, .tuple #[wv (((a / b) + 1) % K4), .bool (decide (K4 ≤ ((a / b) + 1)))])], by kernel_rfl, ?_⟩
      refine GL.run (j := 5) 3 [34, 35] [(34, wv (((a / b) + 1) % K4)), (35, .bool (decide (K4 ≤ ((a / b) + 1))))] (by kernel_rfl) rfl ?_
      obtain ⟨p80, w81, r82, H83⟩ := H78.alloc (P := Try.prog) 48 [.int .u64 0, .int .u64 0, .int .u64 0, .int .u64 0] (by kernel_rfl)
      have H83 : Hp w [] [.row A7 (ndg (a % b)) c8 22 1 (dg (digs (a % b))), .row A5 (ndg (a / b)) c6 22 1 (dg (digs (a / b))), .row A49 (ndg 1) c50 22 1 (dg (digs 1)), .row A55 (ndg ((a / b) + 1)) c56 22 1 (dg (digs ((a / b) + 1))), .row A65 (ndg 4611686018427387904) c66 22 1 (dg (digs 4611686018427387904)), .blk p80 [.int .u64 0, .int .u64 0, .int .u64 0, .int .u64 0] 48] w81 := H83
      refine GL.sem (j := 6) (r82) [10, 34, 35] [(10, pt p80 0), (34, wv (((a / b) + 1) % K4)), (35, .bool (decide (K4 ≤ ((a / b) + 1))))] (by kernel_rfl) (by kernel_rfl) rfl ?_
      obtain ⟨w84, r85, H86⟩ := H83.stA (P := Try.prog) (o := 0) (vs := [.int .u64 (wd (((a / b) + 1) % K4) 0 : Int), .int .u64 (wd (((a / b) + 1) % K4) 1 : Int), .int .u64 (wd (((a / b) + 1) % K4) 2 : Int), .int .u64 (wd (((a / b) + 1) % K4) 3 : Int)]) (ty := 48) (m := 4) 5 rfl (by kernel_rfl) rfl (by simp) (by simp [Value.oneCell'])
      have H86 : Hp w [] [.row A7 (ndg (a % b)) c8 22 1 (dg (digs (a % b))), .row A5 (ndg (a / b)) c6 22 1 (dg (digs (a / b))), .row A49 (ndg 1) c50 22 1 (dg (digs 1)), .row A55 (ndg ((a / b) + 1)) c56 22 1 (dg (digs ((a / b) + 1))), .row A65 (ndg 4611686018427387904) c66 22 1 (dg (digs 4611686018427387904)), .blk p80 [.int .u64 (wd (((a / b) + 1) % K4) 0 : Int), .int .u64 (wd (((a / b) + 1) % K4) 1 : Int), .int .u64 (wd (((a / b) + 1) % K4) 2 : Int), .int .u64 (wd (((a / b) + 1) % K4) 3 : Int)] 48] w84 := H86
      refine GL.semU (j := 7) r85 [10, 35] [(10, pt p80 0), (35, .bool (decide (K4 ≤ ((a / b) + 1))))] (by kernel_rfl) rfl rfl rfl ?_
      refine GL.run (j := 8) 1 [10] [(10, pt p80 0)] (by kernel_rfl) rfl ?_
      refine GL.k rfl hK76 (fun _ _ h => h) ?_
      refine G.seqK fun K87 hK88 => ?_
      refine G.region ?_
      refine GL.run (j := 1) 1 [36] [(36, pt p80 0)] (by kernel_rfl) rfl ?_
      refine GL.sem (j := 2) (H86.ld (o := 0) (ty := 22) (v := .int .u64 (wd (((a / b) + 1) % K4) 0 : Int)) 5 rfl (by kernel_rfl) rfl) [37] [(37, .int .u64 (wd (((a / b) + 1) % K4) 0 : Int))] (by kernel_rfl) (by kernel_rfl) rfl ?_
      refine GL.run (j := 4) 2 [6, 7] [(6, .int .u64 (wd (((a / b) + 1) % K4) 0 : Int)), (7, .bool true)] (by kernel_rfl) rfl ?_
      refine GL.k rfl hK88 (fun _ _ h => h) ?_
      refine G.ret ?_
      intro F_ hF_ hM_
      refine hRet _ _ (bodyPost_2 rfl (RV.tmp rfl) (RV.tmp rfl) ?_ F_ hF_ hM_)
      have hq : divQ a b true = (a / b + 1) := divQ_one hrest
      obtain ⟨e1, e2⟩ := div_fits hq (by omega)
      rw [low_word (by omega)]
      rw [e1, e2]
      exact ⟨rfl, H86.sub (List.nil_sublist _)⟩
    · skip
      have hb74f := of_decide_eq_true hb74
      have hov : 4611686018427387904 < ((a / b) + 1) := cmp_gt0.1 hb74f
      refine G.yes rfl ?_
      refine G.seqK fun K89 hK90 => ?_
      refine G.region ?_
      refine GL.run (j := 2) 2 [6, 7] [(6, .int .u64 0), (7, .bool false)] (by kernel_rfl) rfl ?_
      refine GL.k rfl hK90 (fun _ _ h => h) ?_
      refine G.ret ?_
      intro F_ hF_ hM_
      refine hRet _ _ (bodyPost_2 rfl (RV.tmp rfl) (RV.tmp rfl) ?_ F_ hF_ hM_)
      have hq : divQ a b true = (a / b + 1) := divQ_one hrest
      obtain ⟨e1, e2⟩ := div_over hq (by omega)
      rw [e1, e2]
      exact ⟨rfl, H72.sub (List.nil_sublist _)⟩
theorem Divide5_down (a b : Nat) (A : Option Addr) (c : Nat) (B : Option Addr) (d : Nat) (w : World) (hr : RdS w A (dg (digs a))) (hs : RdS w B (dg (digs b))) (hna : ndg a ≤ 900) (hnb : ndg b ≤ 900) (hb0 : b ≠ 0) : Calls Try.prog 9 #[.slice A (ndg a) c, .slice B (ndg b) d, .bool false] w fun e w' => e = .returned (.tuple #[.int .u64 ((divV a b false : Nat) : Int), .bool (divF a b false)]) ∧ Hp w [] [] w' := by
  have hMX : MX = 4611686018427387904 := rfl
  have hK0 : K = 18446744073709551616 := rfl
  have hK40 : K4 = 115792089237316195423570985008687907853269984665640564039457584007913129639936 := rfl
  refine calls_G (args := [.slice A (ndg a) c, .slice B (ndg b) d, .bool false]) Try.func9 rfl Try.ntmps9 rfl ?_
  intro Q0 hRet hNor hPan
  have H := Hp.start w
  have H : Hp w [] [] w := H
  refine G.seqK fun K1 hK2 => ?_
  refine G.region ?_
  refine GL.run (j := 2) 2 [0, 1, 2] [(0, .slice A (ndg a) c), (1, .slice B (ndg b) d), (2, .bool false)] (by kernel_rfl) rfl ?_
  refine GL.k rfl hK2 (fun _ _ h => h) ?_
  refine G.seqK fun K3 hK4 => ?_
  refine G.region ?_
  refine GL.run (j := 2) 2 [2, 13, 14] [(2, .bool false), (13, .slice A (ndg a) c), (14, .slice B (ndg b) d)] (by kernel_rfl) rfl ?_
  have hN12 : ndg (a / b) ≤ 900 := ndg_div hna
  have hN13 : ndg (a % b) ≤ 900 := ndg_mod hna
  refine GL.call (j := 3) (DivN_calls a b A c B d w (hr.hp H) (hs.hp H) (Nat.le_trans hna (by decide)) (Nat.le_trans hnb (by decide)) (hb0)) (by kernel_rfl) rfl (fun e_ w11 hR => ?_)
  obtain ⟨A5, c6, A7, c8, rfl, H10⟩ := hR
  have H9 : Hp w [] [.row A7 (ndg (a % b)) c8 22 1 (dg (digs (a % b))), .row A5 (ndg (a / b)) c6 22 1 (dg (digs (a / b)))] w11 := H.callNew H10
  refine ⟨_, rfl, [2, 15], [(2, .bool false), (15, .tuple #[.slice A5 (ndg (a / b)) c6, .slice A7 (ndg (a % b)) c8])], by kernel_rfl, ?_⟩
  refine GL.run (j := 8) 5 [2, 8, 9] [(2, .bool false), (8, .slice A5 (ndg (a / b)) c6), (9, .slice A7 (ndg (a % b)) c8)] (by kernel_rfl) rfl ?_
  refine GL.k rfl hK4 (fun _ _ h => h) ?_
  refine G.seqK fun K14 hK15 => ?_
  refine G.seqK fun K16 hK17 => ?_
  refine G.region ?_
  refine GL.run (j := 6) 6 [8, 23] [(8, .slice A5 (ndg (a / b)) c6), (23, .bool false)] (by kernel_rfl) rfl ?_
  refine GL.k rfl hK17 (fun _ _ h => h) ?_
  refine G.no rfl ?_
  refine G.skipK hK15 (fun _ _ h => h) ?_
  refine G.seqK fun K18 hK19 => ?_
  refine G.seqK fun K20 hK21 => ?_
  refine G.region ?_
  refine GL.run (j := 1) 1 [8, 27] [(8, .slice A5 (ndg (a / b)) c6), (27, .slice A5 (ndg (a / b)) c6)] (by kernel_rfl) rfl ?_
  have hN27 : ndg 4611686018427387904 ≤ 4 := ndg_K (by decide)
  refine GL.call (j := 2) (N5_calls 4611686018427387904 (by decide) w11) (by kernel_rfl) rfl (fun e_ w26 hR => ?_)
  obtain ⟨A22, c23, rfl, H25⟩ := hR
  have H24 : Hp w [] [.row A7 (ndg (a % b)) c8 22 1 (dg (digs (a % b))), .row A5 (ndg (a / b)) c6 22 1 (dg (digs (a / b))), .row A22 (ndg 4611686018427387904) c23 22 1 (dg (digs 4611686018427387904))] w26 := H9.callNew H25
  refine ⟨_, rfl, [8, 27, 28], [(8, .slice A5 (ndg (a / b)) c6), (27, .slice A5 (ndg (a / b)) c6), (28, .slice A22 (ndg 4611686018427387904) c23)], by kernel_rfl, ?_⟩
  refine GL.call (j := 3) (CmpN_calls (a / b) 4611686018427387904 A5 A22 c6 c23 w26 (H24.rdRow 1 rfl) (H24.rdRow 2 rfl) (Nat.le_trans hN12 (by decide)) (Nat.le_trans hN27 (by decide))) (by kernel_rfl) rfl (fun e_ w28 hR => ?_)
  obtain ⟨rfl, H30⟩ := hR
  have H29 : Hp w [] [.row A7 (ndg (a % b)) c8 22 1 (dg (digs (a % b))), .row A5 (ndg (a / b)) c6 22 1 (dg (digs (a / b))), .row A22 (ndg 4611686018427387904) c23 22 1 (dg (digs 4611686018427387904))] w28 := H24.callNil H30
  refine ⟨_, rfl, [8, 29], [(8, .slice A5 (ndg (a / b)) c6), (29, .int .i64 (cmpN (a / b) 4611686018427387904))], by kernel_rfl, ?_⟩
  refine GL.run (j := 4) 1 [8, 30] [(8, .slice A5 (ndg (a / b)) c6), (30, .bool (decide (0 < (cmpN (a / b) 4611686018427387904))))] (by kernel_rfl) rfl ?_
  refine GL.k rfl hK21 (fun _ _ h => h) ?_
  cases hb31 : (decide (0 < (cmpN (a / b) 4611686018427387904)))
  · skip
    have hb31f := of_decide_eq_false hb31
    have hov : ¬ 4611686018427387904 < (a / b) := fun h => hb31f (cmp_gt0.2 h)
    refine G.no rfl ?_
    refine G.skipK hK19 (fun _ _ h => h) ?_
    refine G.seqK fun K32 hK33 => ?_
    refine G.region ?_
    refine GL.run (j := 1) 1 [32] [(32, .slice A5 (ndg (a / b)) c6)] (by kernel_rfl) rfl ?_
    refine GL.call (j := 2) (WordsN_calls (a / b) A5 c6 w28 (H29.rdRow 1 rfl) (Nat.le_trans hN12 (by decide))) (by kernel_rfl) rfl (fun e_ w34 hR => ?_)
    obtain ⟨rfl, H36⟩ := hR
    have H35 : Hp w [] [.row A7 (ndg (a % b)) c8 22 1 (dg (digs (a % b))), .row A5 (ndg (a / b)) c6 22 1 (dg (digs (a / b))), .row A22 (ndg 4611686018427387904) c23 22 1 (dg (digs 4611686018427387904))] w34 := H29.callNil H36
    refine ⟨_, rfl, [33], [(33, .tuple #[wv ((a / b) % K4), .bool (decide (K4 ≤ (a / b)))])], by kernel_rfl, ?_⟩
    refine GL.run (j := 5) 3 [34, 35] [(34, wv ((a / b) % K4)), (35, .bool (decide (K4 ≤ (a / b))))] (by kernel_rfl) rfl ?_
    obtain ⟨p37, w38, r39, H40⟩ := H35.alloc (P := Try.prog) 48 [.int .u64 0, .int .u64 0, .int .u64 0, .int .u64 0] (by kernel_rfl)
    have H40 : Hp w [] [.row A7 (ndg (a % b)) c8 22 1 (dg (digs (a % b))), .row A5 (ndg (a / b)) c6 22 1 (dg (digs (a / b))), .row A22 (ndg 4611686018427387904) c23 22 1 (dg (digs 4611686018427387904)), .blk p37 [.int .u64 0, .int .u64 0, .int .u64 0, .int .u64 0] 48] w38 := H40
    refine GL.sem (j := 6) (r39) [10, 34, 35] [(10, pt p37 0), (34, wv ((a / b) % K4)), (35, .bool (decide (K4 ≤ (a / b))))] (by kernel_rfl) (by kernel_rfl) rfl ?_
    obtain ⟨w41, r42, H43⟩ := H40.stA (P := Try.prog) (o := 0) (vs := [.int .u64 (wd ((a / b) % K4) 0 : Int), .int .u64 (wd ((a / b) % K4) 1 : Int), .int .u64 (wd ((a / b) % K4) 2 : Int), .int .u64 (wd ((a / b) % K4) 3 : Int)]) (ty := 48) (m := 4) 3 rfl (by kernel_rfl) rfl (by simp) (by simp [Value.oneCell'])
    have H43 : Hp w [] [.row A7 (ndg (a % b)) c8 22 1 (dg (digs (a % b))), .row A5 (ndg (a / b)) c6 22 1 (dg (digs (a / b))), .row A22 (ndg 4611686018427387904) c23 22 1 (dg (digs 4611686018427387904)), .blk p37 [.int .u64 (wd ((a / b) % K4) 0 : Int), .int .u64 (wd ((a / b) % K4) 1 : Int), .int .u64 (wd ((a / b) % K4) 2 : Int), .int .u64 (wd ((a / b) % K4) 3 : Int)] 48] w41 := H43
    refine GL.semU (j := 7) r42 [10, 35] [(10, pt p37 0), (35, .bool (decide (K4 ≤ (a / b))))] (by kernel_rfl) rfl rfl rfl ?_
    refine GL.run (j := 8) 1 [10] [(10, pt p37 0)] (by kernel_rfl) rfl ?_
    refine GL.k rfl hK33 (fun _ _ h => h) ?_
    refine G.seqK fun K44 hK45 => ?_
    refine G.region ?_
    refine GL.run (j := 1) 1 [36] [(36, pt p37 0)] (by kernel_rfl) rfl ?_
    refine GL.sem (j := 2) (H43.ld (o := 0) (ty := 22) (v := .int .u64 (wd ((a / b) % K4) 0 : Int)) 3 rfl (by kernel_rfl) rfl) [37] [(37, .int .u64 (wd ((a / b) % K4) 0 : Int))] (by kernel_rfl) (by kernel_rfl) rfl ?_
    refine GL.run (j := 4) 2 [6, 7] [(6, .int .u64 (wd ((a / b) % K4) 0 : Int)), (7, .bool true)] (by kernel_rfl) rfl ?_
    refine GL.k rfl hK45 (fun _ _ h => h) ?_
    refine G.ret ?_
    intro F_ hF_ hM_
    refine hRet _ _ (bodyPost_2 rfl (RV.tmp rfl) (RV.tmp rfl) ?_ F_ hF_ hM_)
    have hq : divQ a b false = (a / b) := divQ_down a b
    obtain ⟨e1, e2⟩ := div_fits hq (by omega)
    rw [low_word (by omega)]
    rw [e1, e2]
    exact ⟨rfl, H43.sub (List.nil_sublist _)⟩
  · skip
    have hb31f := of_decide_eq_true hb31
    have hov : 4611686018427387904 < (a / b) := cmp_gt0.1 hb31f
    refine G.yes rfl ?_
    refine G.seqK fun K46 hK47 => ?_
    refine G.region ?_
    refine GL.run (j := 2) 2 [6, 7] [(6, .int .u64 0), (7, .bool false)] (by kernel_rfl) rfl ?_
    refine GL.k rfl hK47 (fun _ _ h => h) ?_
    refine G.ret ?_
    intro F_ hF_ hM_
    refine hRet _ _ (bodyPost_2 rfl (RV.tmp rfl) (RV.tmp rfl) ?_ F_ hF_ hM_)
    have hq : divQ a b false = (a / b) := divQ_down a b
    obtain ⟨e1, e2⟩ := div_over hq (by omega)
    rw [e1, e2]
    exact ⟨rfl, H29.sub (List.nil_sublist _)⟩
end Go.Proofs.Ytjfmibmmebdliaa
